/- Names changed, values closed, the contract of a function, and what a caller gets of it. Conditions: none; over any program. -/
import Derived.Test.YtnibbmmljamolaaGreatLiteBS
import Derived.Test.YtnibbmmljamolaaGreatLiteN
set_option linter.unusedVariables false
set_option linter.unusedSimpArgs false
namespace Go.Lite
open Go Go.RowKit

mutual
def ren(g : Nat → Nat) : LV → LV
  |.agg l=>.agg (renL g l)
  |.tup l=>.tup (renL g l)
  |.own id=>.own (g id)
  |.vp id off=>.vp (g id) off
  |.ap id sz i off=>.ap (g id) sz i off
  |.whn b v=>.whn b (ren g v)
  |.k b o=>.k b o
  |.er b=>.er b
  |.fv=>.fv
  |.any=>.any
  |.ifc t v=>.ifc t (ren g v)
  |.mp id=>.mp (g id)
  |.int k n=>.int k n
  |.bool b=>.bool b
  |.str s=>.str s
  |.ro fr sz n row=>.ro fr sz n row
  |.ep row off=>.ep row off
  |.nilS=>.nilS
  |.nilM=>.nilM
  |.rm kd m=>.rm kd m
  |.nilP=>.nilP
  |.fn f=>.fn f
  |.clo f l=>.clo f (renL g l)
def renL(g : Nat → Nat) : List LV → List LV
  |[]=>[]
  |v :: r=>ren g v :: renL g r
end
mutual
def dfr : LV → LV
  |.agg l=>.agg (dfrL l)
  |.tup l=>.tup (dfrL l)
  |.ro _ sz n row=>.ro false sz n fun i=>dfrL (row i)
  |.ep row off=>.ep (dfrL row) off
  |.own id=>.own id
  |.vp id off=>.vp id off
  |.ap id sz i off=>.ap id sz i off
  |.whn b v=>.whn b v
  |.k b o=>.k b o
  |.er b=>.er b
  |.fv=>.fv
  |.any=>.any
  |.ifc t v=>.ifc t (dfr v)
  |.mp id=>.mp id
  |.int k n=>.int k n
  |.bool b=>.bool b
  |.str s=>.str s
  |.nilS=>.nilS
  |.nilM=>.nilM
  |.rm kd m=>.rm kd m
  |.nilP=>.nilP
  |.fn f=>.fn f
  |.clo f l=>.clo f (dfrL l)
def dfrL : List LV → List LV
  |[]=>[]
  |v :: r=>dfr v :: dfrL r
end
def nrL(sz : Nat) : NR → LV
  |.row m r=>.ro false sz m fun k=>dfrL (r k)
  |.cell v=>dfr v
  |_=>.any
def nrE(wd:Nat)(f:NR→LV)(rows:Nat→NR)(i:Nat):List LV:=(List.range wd).map fun j=>f (rows (i * wd+j))
mutual
def zbk(kv : Nat → Nat → Option LV)(blk : Nat → Option BC) : LV → Option LV
  |.agg l=>(zfh kv blk l).map .agg
  |.tup l=>(zfh kv blk l).map .tup
  | .own id => match blk id with
    |some (.arr sz n row)=>some (.ro false sz n fun i=>dfrL (row i))
    |some (.nest 1 _ sz n rows)=>some (.ro false 1 n fun i=>[nrL sz (rows i)])
    |some (.nest wd _ sz n rows)=>some (.ro false wd n (nrE wd (nrL sz) rows))
    |_=>none
  |.vp id off=>kv id off
  |.ap _ _ _ _=>none
  | .mp id => match blk id with
    |some (.mp kd m)=>some (.rm kd m)
    |_=>none
  |.rm kd m=>some (.rm kd m)
  |.whn _ _=>none
  |.k b o=>some (.k b o)
  |.er b=>some (.er b)
  |.fv=>some .fv
  |.any=>some .any
  |.ifc t v=>(zbk kv blk v).map (.ifc t)
  |.ro _ sz n row=>some (.ro false sz n fun i=>dfrL (row i))
  |.ep row off=>some (.ep (dfrL row) off)
  |.int k n=>some (.int k n)
  |.bool b=>some (.bool b)
  |.str s=>some (.str s)
  |.nilS=>some .nilS
  |.nilM=>some .nilM
  |.nilP=>some .nilP
  |.fn f=>some (.fn f)
  |.clo f l=>(zfh kv blk l).map (.clo f)
def zfh(kv : Nat → Nat → Option LV)(blk : Nat → Option BC) : List LV → Option (List LV)
  |[]=>some []
  | v :: r => match zbk kv blk v, zfh kv blk r with
    |some x,some xs=>some (x :: xs)
    |_,_=>none
end
def kvN(blk : Nat → Option BC) : Nat → Nat → Nat → Option LV
  |0,_,_=>none
  | n + 1, id, off => match blk id with
    | some (.var cs) => match zfh (kvN blk n) blk cs with
      |some l=>some (.ep l off)
      |none=>none
    |_=>none
def zj1(blk:Nat→Option BC)(l:List LV):Option (List LV):=zfh (kvN blk 3) blk l
mutual
def Frs : LV → Prop
  |.agg l=>FrsL l
  |.tup l=>FrsL l
  |.ro fr _ n row=>n=0∨(fr=true∧∀i,i<n→FrsL (row i))
  |.ep _ _=>False
  |.whn _ _=>False
  |.k _ _=>True
  |.er _=>True
  |.fv=>True
  |.any=>False
  |.ifc _ v=>Frs v
  |.mp _=>False
  |.own _=>True
  |.vp _ _=>False
  |.ap _ _ _ _=>False
  |.int _ _=>True
  |.bool _=>True
  |.str _=>True
  |.nilS=>True
  |.nilM=>True
  |.rm _ _=>False
  |.nilP=>True
  |.fn _=>True
  |.clo _ _=>False
def FrsL : List LV → Prop
  |[]=>True
  |v :: r=>Frs v∧FrsL r
end

theorem zfl(g : Nat → Nat) : ∀(l : List LV) (i : Nat), (renL g l)[i]? = (l[i]?).map (ren g)
  |[],i=>by simp[renL]
  |v :: r,0=>by simp[renL]
  |v :: r,i+1=>by simpa[renL] using zfl g r i
theorem zdi(g : Nat → Nat) : ∀l : List LV, (renL g l).length = l.length
  |[]=>rfl
  |v :: r=>by simp[renL,zdi g r]
theorem zct : ∀(l : List LV) (i : Nat), (dfrL l)[i]? = (l[i]?).map dfr
  |[],i=>by simp[dfrL]
  |v :: r,0=>by simp[dfrL]
  |v :: r,i+1=>by simpa[dfrL] using zct r i
theorem zdo : ∀l : List LV, (dfrL l).length = l.length
  |[]=>rfl
  |v :: r=>by simp[dfrL,zdo r]
theorem z1g:∀lv:LV,isOne (dfr lv)=isOne lv:=by intro lv;cases lv<;>simp[dfr,isOne]
theorem znr{l:List LV}(h:∀lv∈l,isOne lv=true):∀lv∈dfrL l,isOne lv=true:=by intro lv hl;obtain⟨i,hi,e⟩:=oZ hl;have h5:(dfrL l)[i]?=some lv:=vdi;rw[zct] at h5;simp only[ou] at h5;obtain⟨y,hy,rfl⟩:=h5;rw[z1g];grind
theorem zg6 : ∀{l : List LV}, FrsL l → ∀(i : Nat) x, l[i]? = some x → Frs x
  |[],_,i,x,h=>by simp at h
  |v :: r,hf,0,x,h=>by simp[FrsL] at hf h;subst h;exact hf.1
  |v :: r,hf,i+1,x,h=>zg6 (l:=r) (by simp[FrsL] at hf;exact hf.2) i x vc3

section
variable {w:World} {B:Nat} {X:Nat→Prop} {E:Env}
theorem RepC.ren_eq{lv : LV}{v : Value}(h : RepC w B X lv v)(g : Nat → Nat) : ren g lv = lv := by
 have hl : ∀(l : List LV) (vs : Array Value), vs.size = l.length → (∀(i : Nat) lv v, l[i]? = some lv → vs[i]? = some v → ren g lv = lv) → renL g l = l := fun l vs hs hh => by
  apply List.ext_getElem?;intro i;rw[zfl];cases hi:l[i]? with
  |none =>rfl
  |some x =>have hlt:i<l.length:=(oG.1 hi).1;simp[hh i x (vs[i]' vdh) hi (oN vdh)]
 induction h with
 |agg l vs hs _ ih =>simp only[ren];rw[hl l vs hs ih]
 |tup l vs hs _ ih =>simp only[ren];rw[hl l vs hs ih]
 |clo f l vs hs _ ih =>simp only[ren];rw[hl l vs hs ih]
 |ifc t lv v _ ih =>simp only[ren];rw[ih]
 |_ =>rfl

theorem RepV.renamed{lv : LV}{v : Value}(h : RepV w B X E lv v){B' : Nat}{X' : Nat → Prop}{E' : Env}{g : Nat → Nat}(hB : B' ≤ B)(hX : ∀b, X' b → X b)(hE : ∀id, Ment lv id → E' (g id) = E id) : RepV w B' X' E' (ren g lv) v := by
 induction h with
 |c lv v h =>rw[h.ren_eq];exact .c _ _ (h.keep (oz _) (fun _ _ _=>rfl) (fun b hb=>.inl (hX b hb)) hB)
 |vp id off b hb =>exact .vp (g id) off b (by rw[hE id (.vp id off)];exact hb)
 |own id =>have:=hE id (.own id);rw[←this];exact .own (g id)
 | ap id sz i off b hb hi =>have:=hE id (.ap id sz i off);rw[←this] at hb hi ⊢;exact .ap (g id) sz i off b hb hi
 |mp id b hb =>exact .mp (g id) b (by rw[hE id (.mp id)];exact hb)
 |agg l vs hl _ ih =>refine .agg _ vs (by rw[zdi];exact hl) fun i x u hx hu=>?_;rw[zfl] at hx;simp only[ou] at hx;obtain⟨y,hy,rfl⟩:=hx;exact ih i y u hy hu fun id hm=>hE id (.agg l y id (oY hy) hm)
 |tup l vs hl _ ih =>refine .tup _ vs (by rw[zdi];exact hl) fun i x u hx hu=>?_;rw[zfl] at hx;simp only[ou] at hx;obtain⟨y,hy,rfl⟩:=hx;exact ih i y u hy hu fun id hm=>hE id (.tup l y id (oY hy) hm)
 |clo f l vs hl _ ih =>refine .clo f _ vs (by rw[zdi];exact hl) fun i x u hx hu=>?_;rw[zfl] at hx;simp only[ou] at hx;obtain⟨y,hy,rfl⟩:=hx;exact ih i y u hy hu fun id hm=>hE id (.clo f l y id (oY hy) hm)
 |whn b lv v _ hn ih =>exact .whn b _ v (fun hb=>ih hb fun id hm=>hE id (.whn b lv id hb hm)) hn
 |ifc t lv v _ ih =>exact .ifc t _ v (ih fun id hm=>hE id (.ifc t lv id hm))

theorem RepC.dfr{lv : LV}{v : Value}(h : RepC w B X lv v)(B' : Nat) : RepC w B' (fun _ => False) (dfr lv) v := by
 induction h with
 |int k n =>exact .int k n
 |bool b =>exact .bool b
 |str s =>exact .str s
 |nilS =>exact .nilS
 |nilM =>exact .nilM
 |rm kd m b es ck hlt hX hc hm =>exact .rm kd m b es ck hlt (fun hf=>hf) hc hm
 |nilP =>exact .nilP
 |fn f =>exact .fn f
 |k b o =>exact .k b o
 |er b v h0 h1 =>exact .er b v h0 h1
 |fv f cs =>exact .fv f cs
 |fv0 =>exact .fv0
 |any A n c =>exact .any A n c
 |ifc t lv v _ ih =>exact .ifc t _ v ih
 |agg l vs hl _ ih =>refine .agg _ vs vcz fun i x u hx hu=>?_;rw[zct] at hx;grind
 |tup l vs hl _ ih =>refine .tup _ vs vcz fun i x u hx hu=>?_;rw[zct] at hx;grind
 |clo f l vs hl _ ih =>refine .clo f _ vs vcz fun i x u hx hu=>?_;rw[zct] at hx;grind
 |ro fr sz n row A ad cap cv hcap hA hlt hX hb hsz ho hc _ ih =>refine .ro false sz n _ A ad cap cv hcap hA hlt (fun _ hf=>hf) (fun _ hf=>by cases hf) (fun i hi=>by rw[zdo];exact hsz i hi) (fun i hi=>znr (ho i hi)) hc fun i j x hi hx=>?_;rw[zct] at hx;grind
 |ep row off ad cv hlt hX hc _ ih =>refine .ep _ off ad cv hlt (fun hf=>hf) (fun j hj=>hc j (by rw[zdo] at hj;exact hj)) fun j x hx=>?_;rw[zct] at hx;grind

theorem RepC.dfrX{lv : LV}{v : Value}(h : RepC w B X lv v) : RepC w B X (Lite.dfr lv) v := by
 induction h with
 |int k n =>exact .int k n
 |bool b =>exact .bool b
 |str s =>exact .str s
 |nilS =>exact .nilS
 |nilM =>exact .nilM
 |rm kd m b es ck hlt hX hc hm =>exact .rm kd m b es ck hlt hX hc hm
 |nilP =>exact .nilP
 |fn f =>exact .fn f
 |k b o =>exact .k b o
 |er b v h0 h1 =>exact .er b v h0 h1
 |fv f cs =>exact .fv f cs
 |fv0 =>exact .fv0
 |any A n c =>exact .any A n c
 |ifc t lv v _ ih =>exact .ifc t _ v ih
 |agg l vs hl _ ih =>refine .agg _ vs vcz fun i x u hx hu=>?_;rw[zct] at hx;grind
 |tup l vs hl _ ih =>refine .tup _ vs vcz fun i x u hx hu=>?_;rw[zct] at hx;grind
 |clo f l vs hl _ ih =>refine .clo f _ vs vcz fun i x u hx hu=>?_;rw[zct] at hx;grind
 |ro fr sz n row A ad cap cv hcap hA hlt hX hb hsz ho hc _ ih =>refine .ro false sz n _ A ad cap cv hcap hA hlt hX (fun _ hf=>by cases hf) (fun i hi=>by rw[zdo];exact hsz i hi) (fun i hi=>znr (ho i hi)) hc fun i j x hi hx=>?_;rw[zct] at hx;grind
 |ep row off ad cv hlt hX hc _ ih =>refine .ep _ off ad cv hlt hX (fun j hj=>hc j (by rw[zdo] at hj;exact hj)) fun j x hx=>?_;rw[zct] at hx;grind
theorem RepV.dfrX{E : Env}{lv : LV}{v : Value}(h : RepV w B X E lv v) : RepV w B X E (dfr lv) v := by
 induction h with
 |c lv v h =>exact .c _ _ h.dfrX
 |vp id off b hb =>exact .vp id off b hb
 |own id =>exact .own id
 |ap id sz i off b hb hi =>exact .ap id sz i off b hb hi
 |mp id b hb =>exact .mp id b hb
 |agg l vs hl _ ih =>refine .agg _ vs vcz fun i x u hx hu=>?_;rw[zct] at hx;grind
 |tup l vs hl _ ih =>refine .tup _ vs vcz fun i x u hx hu=>?_;rw[zct] at hx;grind
 |clo f l vs hl _ ih =>refine .clo f _ vs vcz fun i x u hx hu=>?_;rw[zct] at hx;grind
 |whn b lv v h hn _ =>exact .whn b lv v h hn
 |ifc t lv v _ ih =>exact .ifc t _ v ih

theorem RepC.frs{lv : LV}{v : Value}(h : RepC w B X lv v)(hf : Frs lv) : RepC w B (fun b => b < B ∨ X b) lv v := by
 induction h with
 |int k n =>exact .int k n
 |bool b =>exact .bool b
 |str s =>exact .str s
 |nilS =>exact .nilS
 |nilM =>exact .nilM
 |rm =>exact absurd hf vc7
 |nilP =>exact .nilP
 |clo =>exact absurd hf vc7
 |fn f =>exact .fn f
 |k b o =>exact .k b o
 |er b v h0 h1 =>exact .er b v h0 h1
 |fv f cs =>exact .fv f cs
 |fv0 =>exact .fv0
 |any A n c =>exact absurd hf vc7
 |ifc t lv v _ ih =>exact .ifc t lv v (ih vcL)
 |agg l vs hl _ ih =>exact .agg l vs hl fun i x u hx hu=>ih i x u hx hu (zg6 vcL i x hx)
 |tup l vs hl _ ih =>exact .tup l vs hl fun i x u hx hu=>ih i x u hx hu (zg6 vcL i x hx)
 |ro fr sz n row A ad cap cv hcap hA hlt hX hb hsz ho hc _ ih =>
  have hf' : 0 < n → fr = true ∧ ∀i, i < n → FrsL (row i) := fun h0 => by
   rcases hf with hf | hf
   ·omega
   exact hf
  refine .ro fr sz n row A ad cap cv hcap hA hlt (fun h0 hx=>?_) hb hsz ho hc fun i j x hi hx=>ih i j x hi hx (zg6 ((hf' vdh).2 i hi) j x hx);grind
 |ep row off ad cv hlt hX hc _ ih =>exact absurd hf vc7
end

def RepA(w:World)(lv:LV)(v:Value):Prop:=∀B,RepC w B (fun _=>False) lv v

theorem z5y{w : World}{B0 : Nat}{X : Nat → Prop}{e : EI}{sz n : Nat}{row : Nat → List LV}(h : ArrOk w B0 X e sz n row) : RepA w (.ro false sz n fun i => dfrL (row i)) e.val := by
 intro B;obtain⟨hn,hk⟩:=h;rcases hk with⟨_,k2,k3⟩ | ⟨b,cap,vs,T',k1,k2,k3,k4,k5,k6,k7,k8⟩
 ·subst k3;rw [k2];exact .ro false sz 0 _ none ⟨0, 0, none⟩ 0 (fun _ _ => undef) (oz _) (fun h => absurd h vdh) (fun h => absurd h vdh) (fun h => absurd h vdh) (fun h => absurd h vdh) (fun i hi => absurd hi vdh) (fun i hi => absurd hi vdh) (fun i j hi => absurd hi vdh) fun i j lv hi => absurd hi vdh
 rw[k2];have hbd:∀i j,i<n→j<sz→e.off+i * sz+j<vs.size:=fun i j hi hj=>by have h1:i * sz+sz≤cap * sz:=vcd;omega
 refine .ro false sz n _ (some ⟨b,e.off,none⟩) ⟨b,e.off,none⟩ cap (fun i j=>vs.getD (e.off+i * sz+j) undef) k5 (fun _=>rfl) (fun _=>(oK.1 k4).1) (fun _ hf=>hf) (fun _ hf=>by cases hf) (fun i hi=>by rw[zdo];exact(k8 i hi).1) (fun i hi=>znr (k8 i hi).2.1) (fun i j hi hj=>?_) fun i j lv hi hl=>?_
 ·rw [zbv, ← Nat.add_assoc];have := hbd i j hi hj;simp [World.cell?, k4, this]
 rw[zct] at hl;simp only[ou] at hl;obtain⟨y,hy,rfl⟩:=hl;have hj:j<sz:=vdi
 have:=hbd i j hi hj;exact((k8 i hi).2.2 j y (vs.getD (e.off+i * sz+j) undef) hy (by simp[this])).dfr B
theorem nr_rep{w : World}{B0 : Nat}{X : Nat → Prop}{E : Env}{sz : Nat}{ek : EI}{v : Value}{r : NR}(h : NROk w B0 X E sz ek v r) : RepA w (nrL sz r) v := by
 cases r with
 |row n row =>obtain⟨rfl,h⟩:=h;exact z5y h
 |out id =>obtain rfl:v=(E id).val:=h;exact fun B=>.any _ _ _
 |gone =>obtain⟨A,n,c,rfl⟩:=h;exact fun B=>.any A n c
 |cell lv =>exact fun B=>h.2.dfr B
theorem z5c{f:NR→LV}{rows:Nat→NR}:nrE 1 f rows=fun i=>[f (rows i)]:=by funext i;simp[nrE,List.range_succ]
theorem z0i{wd:Nat}{f:NR→LV}{rows:Nat→NR}{i j:Nat}{lv:LV}(h:(nrE wd f rows i)[j]?=some lv):j<wd∧lv=f (rows (i * wd+j)):=by simp only[nrE] at h;grind
theorem zpg{i j n wd:Nat}(hi:i<n)(hj:j<wd):i * wd+j<cN wd n:=by rw[cN_eq];have h1:i * wd+wd≤n * wd:=(by rw[←Nat.succ_mul];exact oW wd hi);omega
theorem z5d{wd:Nat}{f:NR→LV}{rows:Nat→NR}{i:Nat}:(nrE wd f rows i).length=wd:=by simp[nrE]
theorem zw7{w : World}{B0 : Nat}{X : Nat → Prop}{E : Env}{id wd sz n : Nat}{cl : Bool}{rows : Nat → NR}(h : BlkOk w B0 X E id (.nest wd cl sz n rows)) : RepA w (.ro false wd n (nrE wd (nrL sz) rows)) (E id).val := by
 obtain⟨ek,_,hn,hk⟩:=h;intro B;rcases hk with⟨_,k2,k3⟩ | ⟨b,cap,vs,T',k1,k2,k3,k4,k5,k6,k7,k8⟩
 ·subst k3;rw [k2];exact .ro false wd 0 _ none ⟨0, 0, none⟩ 0 (fun _ _ => undef) (oz _) (fun h => absurd h vdh) (fun h => absurd h vdh) (fun h => absurd h vdh) (fun h => absurd h vdh) (fun i hi => absurd hi vdh) (fun i hi => absurd hi vdh) (fun i j hi => absurd hi vdh) fun i j lv hi => absurd hi vdh
 rw[k2];refine .ro false wd n _ (some ⟨b,(E id).off,none⟩) ⟨b,(E id).off,none⟩ cap (fun i j=>vs.getD ((E id).off+(i * wd+j)) undef) k5 (fun _=>rfl) (fun _=>(oK.1 k4).1) (fun _ hf=>hf) (fun _ hf=>by cases hf) (fun i hi=>z5d) (fun i hi lv hl=>?_) (fun i j hi hj=>?_) fun i j lv hi hl=>?_
 ·obtain ⟨j, hj⟩ := List.getElem?_of_mem hl;obtain ⟨h1, rfl⟩ := z0i hj;have h8 := k8 _ (zpg hi h1);cases hr : rows (i * wd + j) with
  |row m r =>rfl
  |out id =>rfl
  |gone =>rfl
  |cell v =>rw[hr] at h8;show isOne (dfr v)=true;rw[z1g];exact h8.1
 ·rw [zbv];have h1 : (E id).off + (i * wd + j) < vs.size := by have := zpg (Nat.lt_of_lt_of_le hi k5) hj;omega
  simp[World.cell?,k4,h1]
 obtain⟨h1,rfl⟩:=z0i hl;exact nr_rep (k8 _ (zpg hi h1)) B
mutual
theorem zrf{N : Nat}{kv : Nat → Nat → Option LV}{w0 : World}{X0 : Fr}{σ : FS}{E : Env}{a : Act}{w : World}(hs : Sat N w0 X0 σ E a w)(hkv : ∀id off x v, kv id off = some x → RepV w w0.heap.size (Own σ E X0) E (.vp id off) v → RepA w x v) : ∀{lv x : LV} {v : Value}, zbk kv σ.blk lv = some x →
    RepV w w0.heap.size (Own σ E X0) E lv v→RepA w x v
  |.agg l, x, v, h, hr => by
    simp only[zbk,ou] at h
    obtain⟨l',h1,rfl⟩:=h
    obtain⟨vs,rfl,hl,hh⟩:=hr.agg_inv
    obtain⟨g1,g2⟩:=zfg hs hkv h1
    exact fun B => .agg l' vs vdh fun i y u hy hu => by
      obtain⟨z,hz,hz2⟩:=g2 i y hy
      exact hz2 u (hh i z u hz hu) B
  |.tup l, x, v, h, hr => by
    simp only[zbk,ou] at h
    obtain⟨l',h1,rfl⟩:=h
    obtain⟨vs,rfl,hl,hh⟩:=hr.tup_inv
    obtain⟨g1,g2⟩:=zfg hs hkv h1
    exact fun B => .tup l' vs vdh fun i y u hy hu => by
      obtain⟨z,hz,hz2⟩:=g2 i y hy
      exact hz2 u (hh i z u hz hu) B
  |.own id, x, v, h, hr => by
    simp only[zbk] at h
    split at h
    · rename_i sz n row hb
      cases h
      have e:=hr.own_inv
      subst e
      intro B
      obtain⟨hn,hk⟩:=hs.blks id _ hb
      rcases hk with⟨_,k2,k3⟩ | ⟨b,cap,vs,T',k1,k2,k3,k4,k5,k6,k7,k8⟩
      · subst k3
        rw[k2]
        exact .ro false sz 0 _ none ⟨0, 0, none⟩ 0 (fun _ _ => undef) (oz _) (fun h => absurd h vdh) (fun h => absurd h vdh) (fun h => absurd h vdh) (fun h => absurd h vdh)
          (fun i hi=>absurd hi vdh) (fun i hi=>absurd hi vdh) (fun i j hi=>absurd hi vdh) fun i j lv hi=>absurd hi vdh
      · rw [k2]
        have hbd : ∀i j, i < n → j < sz → (E id).off + i * sz + j < vs.size := fun i j hi hj => by
          have h1:i * sz+sz≤cap * sz:=vcd
          omega
        refine .ro false sz n _ (some ⟨b, (E id).off, none⟩) ⟨b, (E id).off, none⟩ cap (fun i j => vs.getD ((E id).off + i * sz + j) undef) k5 (fun _ => rfl) (fun _ => (oK.1 k4).1) (fun _ hf => hf)
          (fun _ hf=>by cases hf) (fun i hi=>by rw[zdo];exact(k8 i hi).1) (fun i hi=>znr (k8 i hi).2.1) (fun i j hi hj=>?_) fun i j lv hi hl=>?_
        · rw [zbv,← Nat.add_assoc]
          have:=hbd i j hi hj
          simp[World.cell?,k4,this]
        · rw [zct] at hl
          simp only[ou] at hl
          obtain⟨y,hy,rfl⟩:=hl
          have hj : j < sz := by
            rw[←(k8 i hi).1]
            exact(oG.1 hy).1
          have:=hbd i j hi hj
          exact((k8 i hi).2.2 j y (vs.getD ((E id).off+i * sz+j) undef) hy (by simp[this])).dfr B
    · rename_i cl sz n rows hb
      cases h
      have e:=hr.own_inv
      subst e
      have:=zw7 (hs.blks id _ hb)
      rw[z5c] at this
      exact this
    · rename_i wd cl sz n rows _ hb
      cases h
      have e:=hr.own_inv
      subst e
      exact zw7 (hs.blks id _ hb)
    · cases h
  |.ro fr sz n row,x,v,h,hr=>by simp only[zbk,oq] at h;subst h;exact fun B=>(hr.ro_inv).dfr B
  |.ep row off,x,v,h,hr=>by simp only[zbk,oq] at h;subst h;exact fun B=>(hr.ep_inv).dfr B
  |.int k n,x,v,h,hr=>by simp only[zbk,oq] at h;subst h;rw[hr.int_inv];exact fun B=>.int k n
  |.bool b,x,v,h,hr=>by simp only[zbk,oq] at h;subst h;rw[hr.bool_inv];exact fun B=>.bool b
  |.str s,x,v,h,hr=>by simp only[zbk,oq] at h;subst h;rw[hr.str_inv];exact fun B=>.str s
  |.nilS,x,v,h,hr=>by simp only[zbk,oq] at h;subst h;rw[hr.nilS_inv];exact fun B=>.nilS
  |.rm _ _,x,v,h,hr=>by simp only[zbk,oq] at h;subst h;exact fun B=>(hr.rm_inv).dfr B
  |.nilM,x,v,h,hr=>by simp only[zbk,oq] at h;subst h;rw[hr.nilM_inv];exact fun B=>.nilM
  |.nilP,x,v,h,hr=>by simp only[zbk,oq] at h;subst h;rw[hr.nilP_inv];exact fun B=>.nilP
  |.clo f l, x, v, h, hr => by
    simp only[zbk,ou] at h
    obtain⟨l',h1,rfl⟩:=h
    obtain⟨vs,rfl,hl,hh⟩:=hr.clo_inv
    obtain⟨g1,g2⟩:=zfg hs hkv h1
    exact fun B => .clo f l' vs vdh fun i y u hy hu => by
      obtain⟨z,hz,hz2⟩:=g2 i y hy
      exact hz2 u (hh i z u hz hu) B
  |.fn f,x,v,h,hr=>by simp only[zbk,oq] at h;subst h;rw[hr.fn_inv];exact fun B=>.fn f
  |.vp id off,x,v,h,hr=>by simp only[zbk] at h;exact hkv id off x v h hr
  |.ap _ _ _ _,x,v,h,hr=>by simp[zbk] at h
  |.whn _ _,x,v,h,hr=>by simp[zbk] at h
  |.k b o,x,v,h,hr=>by simp only[zbk,oq] at h;subst h;rw[hr.k_inv];exact fun B=>.k b o
  |.er b,x,v,h,hr=>by simp only[zbk,oq] at h;subst h;exact fun B=>(hr.er_inv).dfr B
  |.fv,x,v,h,hr=>by simp only[zbk,oq] at h;subst h;exact fun B=>(hr.fv_inv).dfr B
  |.any,x,v,h,hr=>by simp only[zbk,oq] at h;subst h;exact fun B=>(hr.any_inv).dfr B
  |.ifc t y, x, v, h, hr => by
    simp only[zbk,ou] at h
    obtain⟨y',h1,rfl⟩:=h
    obtain⟨u,rfl,hu⟩:=hr.ifc_inv
    exact fun B=>.ifc t y' u (zrf hs hkv h1 hu B)
  |.mp id, x, v, h, hr => by
    simp only[zbk] at h
    split at h
    · rename_i kd m hb
      cases h
      obtain⟨b,g1,rfl⟩:=hr.mp_inv
      obtain⟨b',es,ck,k1,k2,k3,k4⟩:=hs.blks id _ hb
      rw[g1] at k1;cases k1
      exact fun B=>.rm kd m b es ck (oK.1 k3).1 (fun hf=>hf) k3 k4
    · cases h
theorem zfg{N : Nat}{kv : Nat → Nat → Option LV}{w0 : World}{X0 : Fr}{σ : FS}{E : Env}{a : Act}{w : World}(hs : Sat N w0 X0 σ E a w)(hkv : ∀id off x v, kv id off = some x → RepV w w0.heap.size (Own σ E X0) E (.vp id off) v → RepA w x v) : ∀{l l' : List LV}, zfh kv σ.blk l = some l' →
    l'.length=l.length∧∀(i:Nat) x,l'[i]?=some x→∃z,l[i]?=some z∧∀v,RepV w w0.heap.size (Own σ E X0) E z v→RepA w x v
  |[],l',h=>by simp only[zfh,oq] at h;subst h;exact⟨rfl,fun i x hx=>by simp at hx⟩
  |y :: r, l', h => by
    simp only[zfh] at h
    split at h
    · rename_i x xs h1 h2
      cases h
      obtain⟨g1,g2⟩:=zfg hs hkv h2
      refine⟨by simp[g1],fun i z hz=>?_⟩
      cases i with
      |zero=>simp at hz;subst hz;exact⟨y,vdj,fun v hv=>zrf hs hkv h1 hv⟩
      |succ i=>simpa using g2 i z (by simpa using hz)
    · cases h
end
theorem z0x{N : Nat}{w0 : World}{X0 : Fr}{σ : FS}{E : Env}{a : Act}{w : World}(hs : Sat N w0 X0 σ E a w) : ∀(n id off : Nat) (x : LV) (v : Value), kvN σ.blk n id off = some x → RepV w w0.heap.size (Own σ E X0) E (.vp id off) v → RepA w x v
  |0,id,off,x,v,h,hr=>by cases h
  |n + 1, id, off, x, v, h, hr => by
    simp only[kvN] at h
    split at h
    · rename_i cs hb
      split at h
      · rename_i l h1
        obtain⟨g1,g2⟩:=zfg hs (z0x hs n) h1
        obtain⟨b,k1,rfl⟩:=hr.vp_inv
        obtain⟨b',vs,T,q1,q2,q3,q4,q5⟩:=hs.blks id _ hb
        rw[k1] at q1;cases q1
        intro B
        have := RepC.ep (w := w) (B := B) (X := fun _ => False) l off ⟨b, 0, none⟩ (fun j => vs.getD j undef) ((oK.1 q3).1) (fun hf => hf) (fun j hj => by
          rw[zbv,Nat.zero_add]
          have hj':j<vs.size:=vdh
          simp[World.cell?,q3,hj']) (fun j y hy=>by
          obtain⟨z,hz,hz2⟩:=g2 j y hy
          have hj:j<vs.size:=vdi
          exact hz2 _ (q5 j z _ hz (by simp[hj])) B)
        rw[zbv,Nat.zero_add] at this
        grind
      · cases h
    · cases h
theorem zre{N:Nat}{w0:World}{X0:Fr}{σ:FS}{E:Env}{a:Act}{w:World}(hs:Sat N w0 X0 σ E a w){l l':List LV}(h:zj1 σ.blk l=some l'):l'.length=l.length∧∀(i:Nat) x,l'[i]?=some x→∃z,l[i]?=some z∧∀v,RepV w w0.heap.size (Own σ E X0) E z v→RepA w x v:=zfg hs (z0x hs 3) h

def ResB : BC → Prop
  |.arr _ _ _=>True
  |.nest _ cl _ _ _=>cl=true
  |_=>False
def OwnR(B:Nat)(arrs:List BC)(E:Env):Nat→Prop:=fun b=>b<B∨∃i,OwnAt (fun i=>arrs[i]?) E i b
def ResOk(w' : World)(B : Nat)(r : LV)(arrs : List BC)(v : Value) : Prop :=
  ∃ E : Env, RepV w' B (OwnR B arrs E) E r v ∧
    (∀(i:Nat) c,arrs[i]?=some c→BlkOk w' B (OwnR B arrs E) E i c∧ResB c) ∧
    (∀i j b,OwnAt (fun i=>arrs[i]?) E i b→OwnAt (fun i=>arrs[i]?) E j b→i=j)∧∀id,Ment r id→arrs[id]?≠none

def Fn(P : Program)(f : FuncId)(args : List LV)(r : LV)(arrs : List BC) : Prop :=
  ∀ (w : World) (vals : List Value), GH w → vals.length = args.length → (∀ (i : Nat) lv v, args[i]? = some lv → vals[i]? = some v → RepA w lv v) →
    Calls P f vals.toArray w fun e w'=>∃v,e=.returned v∧Below w.heap.size w w'∧ResOk w' w.heap.size r arrs v

def resId(d k:Nat):Nat:=1000 * (k+1)+d
def resB(d:Nat)(arrs:List BC):Nat→Option BC:=fun j=>bif(Nat.ble (1000+d) j&&Nat.beq ((j - d) % 1000) 0) then arrs[(j - d) / 1000 - 1]? else none
theorem zz2(d k:Nat)(arrs:List BC):resB d arrs (resId d k)=arrs[k]?:=by have h1:Nat.ble (1000+d) (resId d k)=true:=o3 (by unfold resId;omega);have h2:(resId d k - d) % 1000=0:=(by unfold resId;omega);have h3:(resId d k - d) / 1000 - 1=k:=(by unfold resId;omega);simp[resB,h1,h2,h3]
theorem zks{d j : Nat}{arrs : List BC}{c : BC}(h : resB d arrs j = some c) : ∃k, j = resId d k ∧ arrs[k]? = some c := by
 unfold resB at h;cases h1:(Nat.ble (1000+d) j&&Nat.beq ((j - d) % 1000) 0) with
 |false =>rw[h1] at h;cases h
 |true =>rw[h1] at h;simp only[oc] at h1;have g1:=oU h1.1;have g2:=oo h1.2;exact⟨(j - d) / 1000 - 1,by unfold resId;omega,h⟩

theorem BlkOk.move{w : World}{B B' : Nat}{X X' : Nat → Prop}{E E' : Env}{i i' : Nat}{c : BC}(h : BlkOk w B X E i c)(hc : ResB c)(hB : B' ≤ B)(hX : ∀b, X' b → X b)(hE : E' i' = E i)(hS : ∀b, E'.s i' b ↔ E.s i b) : BlkOk w B' X' E' i' c := by
 cases c with
 |bld T e s =>exact hc.elim
 |var cells =>exact hc.elim
 |mp kd m =>exact hc.elim
 |arr sz n row =>have h':ArrOk w B X (E i) sz n row:=h;have:=h'.keep (oz _) (fun _ _=>rfl) (fun _ _ _=>rfl) (fun b hb=>.inl (hX b hb)) hB;rw[←hE] at this;exact this
 |nest wd cl sz n rows =>
  obtain⟨ek,hs,hn,hh⟩:=h;refine⟨ek,⟨fun b=>(hS b).trans (hs.iff b),hs.inj,by rw[hE];exact hs.ne,hs.cl⟩,by rw[hE];exact hn,?_⟩;rw[hE];rcases hh with g | ⟨b',cap,vs,T,k1,k2,k3,k4,k5,k6,k7,k8⟩
  ·grind
  exact .inr ⟨b',cap,vs,T,k1,k2,Nat.le_trans hB k3,k4,k5,k6,k7,fun k hk=>(k8 k hk).keep (oz _) (fun _ _ _=>rfl) (fun _ _ _=>rfl) (fun b hb=>.inl (hX b hb)) hB fun id hid=>absurd hid (hs.cl hc k id hk)⟩
theorem BlkOk.ge{w : World}{B : Nat}{X : Nat → Prop}{E : Env}{i b : Nat}{c : BC}(h : BlkOk w B X E i c)(hb : (E i).b = some b ∨ (Mul (some c) ∧ E.s i b)) : B ≤ b := by
 rcases hb with hb | ⟨hm,hb⟩
 ·cases c with
  |bld T e s =>obtain⟨b,v,p,h1,h2,_⟩:=h;rw[hb] at h1;cases h1;exact h2.1
  |var cells =>obtain⟨b,_,_,h1,h2,_⟩:=h;rw[hb] at h1;cases h1;exact h2
  |mp kd m =>obtain⟨b,_,_,h1,h2,_⟩:=h;rw[hb] at h1;cases h1;exact h2
  |arr sz n row =>
   rcases h.2 with h | ⟨b,_,_,_,h1,_,h2,_⟩
   ·grind
   grind
  |nest wd cl sz n rows =>obtain⟨_,_,_,h⟩:=h;grind
 rcases znj hm with⟨wd,cl,sz,n,rows,hc⟩ | ⟨T,e,s,hc⟩
 ·cases hc; exact (h.nestSub hb).2.1
 cases hc;exact(h.bldSub hb).2.1
theorem Sat.called{N : Nat}{w0 : World}{X0 : Fr}{σ : FS}{E : Env}{a : Act}{w w' : World}(h : Sat N w0 X0 σ E a w)(hb : Below w.heap.size w w'){r : LV}{arrs : List BC}{v : Value}(hr : ResOk w' w.heap.size r arrs v)(d : Nat)(hfr : ∀j, resB d arrs j ≠ none → σ.used j = false) : ∃E', Sat N w0 X0 (σ.upd noK (resB d arrs)) E' a w' ∧ RepV w' w0.heap.size (Own (σ.upd noK (resB d arrs)) E' X0) E' (ren (resId d) r) v ∧ ∀id, Ment (ren (resId d) r) id → (σ.upd noK (resB d arrs)).used id = true := by
 obtain ⟨Er, h1, h2, h3, h4⟩ := hr;let U : Nat → Option (BC × EI) := fun j => (resB d arrs j).map fun c => (c, Er ((j - d) / 1000 - 1));let S : Nat → Nat → Prop := fun j => Er.s ((j - d) / 1000 - 1);have hU : (fun j => (U j).map (·.1)) = resB d arrs := by funext j; simp [U]; cases resB d arrs j <;> rfl
 have hk3:∀k,(resId d k - d) / 1000 - 1=k:=fun k=>by unfold resId;omega
 have hUid:∀k c,arrs[k]?=some c→U (resId d k)=some (c,Er k):=fun k c hc=>by simp[U,zz2,hc,hk3]
 have hUs:∀j x,U j=some x→∃k,j=resId d k∧arrs[k]?=some x.1∧x.2=Er k:=fun j x hx=>by simp only[U,ou] at hx;obtain⟨c,hc,rfl⟩:=hx;obtain⟨k,rfl,hk⟩:=zks hc;grind
 have hSs:∀k,S (resId d k)=Er.s k:=fun k=>by simp[S,hk3]
 have hat : ∀j x b, U j = some x → (x.2.b = some b ∨ (Mul (some x.1) ∧ S j b)) → ∃k, j = resId d k ∧ OwnAt (fun i => arrs[i]?) Er k b := fun j x b hx hxb => by
  obtain⟨k,rfl,hk,he⟩:=hUs j x hx;refine⟨k,rfl,?_⟩;rcases hxb with hxb | ⟨hm,hxb⟩
  ·rw [he] at hxb; exact .inl ⟨by simp only [hk]; simp, hxb⟩
  rw[hSs] at hxb;exact .inr ⟨by simp only[hk];exact hm,hxb⟩
 have hX : ∀b, Own (σ.setF noK U) (E.setFS U S) X0 b → OwnR w.heap.size arrs Er b := fun b hbo => by
  rcases hbo with hbo | ⟨j,hj⟩
  ·exact .inl (h.xlt hbo)
  cases hUj:U j with
  |some x =>
   have hbk:(σ.setF noK U).blk j=some x.1:=(by simp[FS.setF,hUj])
   obtain ⟨k, _, hk⟩ := hat j x b hUj (by
     rcases hj with⟨_,hj⟩ | ⟨hm,hj⟩
     · simp only [Env.setFS,hUj] at hj;exact .inl hj
     · simp only [Env.setFS,hUj] at hj;rw [hbk] at hm;exact .inr ⟨hm,hj⟩)
   exact .inr ⟨k,hk⟩
  |none =>
   have hbk : (σ.setF noK U).blk j = σ.blk j := (by simp[FS.setF, hUj, noK]);have : OwnAt σ.blk E j b := by
    rcases hj with⟨h5,hj⟩ | ⟨hm,hj⟩
    ·simp only [Env.setFS, hUj] at hj; rw [hbk] at h5; exact .inl ⟨h5, hj⟩
    simp only[Env.setFS,hUj] at hj;rw[hbk] at hm;exact .inr ⟨hm,hj⟩
   exact .inl (h.olt this)
 refine⟨E.setFS U S,?_,?_,?_⟩
 ·rw [← hU, ← FS.setF_eq];refine h.setFS noK U S (fun i x hx => ?_) hb.size (fun b hlt' _ => hb.block b hlt') (fun i x b hx hxb => ?_) (fun i j x y b hx hy hxb hyb => ?_) (h.below.trans (hb.mono h.below.size)) (fun i cells ei lv id hx => ?_) (fun i wd cl sz n rows ei k id hx hk hid => ?_) fun i x hx => ?_
  ·grind
  ·obtain ⟨k, rfl, hk, he⟩ := hUs i x hx;refine .inl ((h2 k _ hk).1.ge ?_);grind
  ·obtain ⟨k, rfl, hk⟩ := hat i x b hx hxb;obtain ⟨m, rfl, hm⟩ := hat j y b hy hyb;rw [h3 k m b hk hm]
  ·obtain ⟨k, rfl, hk, _⟩ := hUs i _ hx;exact ((h2 k _ hk).2).elim
  ·obtain ⟨m, rfl, hm, _⟩ := hUs i _ hx;obtain ⟨ek, hs9, _⟩ := (h2 m _ hm).1;exact absurd hid (hs9.cl (h2 m _ hm).2 k id hk)
  obtain⟨k,rfl,hk,he⟩:=hUs i x hx;have hEi:(E.setFS U S) (resId d k)=Er k:=by simp[Env.setFS,hx,he]
  have hSi:(E.setFS U S).s (resId d k)=Er.s k:=by simp[Env.setFS,hx,hSs]
  exact(h2 k _ hk).1.move (h2 k _ hk).2 h.below.size hX hEi fun b=>by rw[hSi]
 ·rw [← hU, ← FS.setF_eq];refine h1.renamed h.below.size hX fun id hm => ?_;obtain ⟨c, hc⟩ := oP.1 (h4 id hm);simp [Env.setFS, hUid id c hc]
 intro id hm;have : ∃k, id = resId d k ∧ Ment r k := by
  have key : ∀{lv : LV} {v : Value} {E : Env} {w : World} {B : Nat} {X : Nat → Prop}, RepV w B X E lv v → ∀id, Ment (ren (resId d) lv) id → ∃k, id = resId d k ∧ Ment lv k := by
   intro lv v E w B X hr;induction hr with
   |c lv v h =>intro id hm;rw[h.ren_eq] at hm;exact absurd hm (h.noMent id)
   |vp i off b _ =>intro id hm;cases hm;exact⟨i,rfl,.vp i off⟩
   |own i =>intro id hm;cases hm;exact⟨i,rfl,.own i⟩
   |ap i sz m off b _ _ =>intro id hm;cases hm;exact⟨i,rfl,.ap i sz m off⟩
   |mp i b _ =>intro id hm;cases hm;exact⟨i,rfl,.mp i⟩
   |agg l vs hl _ ih =>
    intro id hm;cases hm with
    |agg _ y _ hy hm' =>obtain⟨i,hi,e⟩:=oZ hy;have hi':i<l.length:=(by rw[zdi] at hi;exact hi);have h5:(renL (resId d) l)[i]?=some y:=(by rw[ol hi,e]);rw[zfl,ol hi'] at h5;simp only[Option.map_some,oq] at h5;subst h5;obtain⟨k,h6,h7⟩:=ih i l[i] (vs[i]' vdh) (ol hi') (oN vdh) id hm';exact⟨k,h6,.agg l _ k (List.getElem_mem hi') h7⟩
   |tup l vs hl _ ih =>
    intro id hm;cases hm with
    |tup _ y _ hy hm' =>obtain⟨i,hi,e⟩:=oZ hy;have hi':i<l.length:=(by rw[zdi] at hi;exact hi);have h5:(renL (resId d) l)[i]?=some y:=(by rw[ol hi,e]);rw[zfl,ol hi'] at h5;simp only[Option.map_some,oq] at h5;subst h5;obtain⟨k,h6,h7⟩:=ih i l[i] (vs[i]' vdh) (ol hi') (oN vdh) id hm';exact⟨k,h6,.tup l _ k (List.getElem_mem hi') h7⟩
   |clo f l vs hl _ ih =>
    intro id hm;cases hm with
    |clo _ _ y _ hy hm' =>obtain⟨i,hi,e⟩:=oZ hy;have hi':i<l.length:=(by rw[zdi] at hi;exact hi);have h5:(renL (resId d) l)[i]?=some y:=(by rw[ol hi,e]);rw[zfl,ol hi'] at h5;simp only[Option.map_some,oq] at h5;subst h5;obtain⟨k,h6,h7⟩:=ih i l[i] (vs[i]' vdh) (ol hi') (oN vdh) id hm';exact⟨k,h6,.clo f l _ k (List.getElem_mem hi') h7⟩
   |whn b lv v hh hn ih =>
    intro id hm;cases hm with
    |whn _ _ _ hb hm' =>obtain⟨k,h6,h7⟩:=ih hb id hm';exact⟨k,h6,.whn _ _ k hb h7⟩
   |ifc t lv v _ ih =>
    intro id hm;cases hm with
    |ifc _ _ _ hm' =>obtain⟨k,h6,h7⟩:=ih id hm';exact⟨k,h6,.ifc _ _ k h7⟩
  exact key h1 id hm
 obtain⟨k,rfl,hk⟩:=this;obtain⟨c,hc⟩:=oP.1 (h4 k hk);simp[FS.upd,zz2,hc]

def look{α : Type} : List (Nat × α) → Nat → Option α
  |[],_=>none
  |x :: r,t=>bif Nat.beq x.1 t then some x.2 else look r t
theorem zbx{α : Type}(d : Nat)(x : α)(l : List (Nat × α)) : look ((d, x) :: l) = fun t => if t = d then some x else look l t := by
 funext t;simp only[look];by_cases h:t=d
 ·simp_all
 have : Nat.beq d t = false := by
  cases hb:Nat.beq d t with
  |true =>exact absurd (oo hb).symm h
  |false =>rfl
 grind

mutual
def zgj(u : Nat → Bool) : LV → Bool
  |.agg l=>zf8 u l
  |.tup l=>zf8 u l
  |.vp id _=>u id
  |.own id=>u id
  |.ap id _ _ _=>u id
  |.mp id=>u id
  |.whn _ v=>zgj u v
  |.k _ _=>true
  |.er _=>true
  |.fv=>true
  |.any=>true
  |.ifc _ v=>zgj u v
  |.int _ _=>true
  |.bool _=>true
  |.str _=>true
  |.ro _ _ _ _=>true
  |.ep _ _=>true
  |.nilS=>true
  |.nilM=>true
  |.rm _ _=>true
  |.nilP=>true
  |.clo _ l=>zf8 u l
  |.fn _=>true
def zf8(u : Nat → Bool) : List LV → Bool
  |[]=>true
  |v :: r=>zgj u v&&zf8 u r
end
theorem zcz{u : Nat → Bool} : ∀{l : List LV}, zf8 u l = true → ∀v ∈ l, zgj u v = true
  |[],_,v,hv=>by cases hv
  |x :: l, h, v, hv => by
    simp only[zf8,oc] at h
    rcases oS.1 hv with e | hv
    · grind
    · exact zcz h.2 v hv
theorem zdh{u : Nat → Bool}{lv : LV}{id : Nat}(hm : Ment lv id) : zgj u lv = true → u id = true := by
 induction hm with
 |vp id off =>exact fun h=>h
 |own id =>exact fun h=>h
 |ap id sz i off =>exact fun h=>h
 |mp id =>exact fun h=>h
 |agg l lv id hl _ ih =>exact fun h=>ih (zcz vcu lv hl)
 |tup l lv id hl _ ih =>exact fun h=>ih (zcz vcu lv hl)
 |clo f l lv id hl _ ih =>exact fun h=>ih (zcz vcu lv hl)
 |whn b lv id _ _ ih =>exact fun h=>ih vcu
 |ifc t lv id _ ih =>exact fun h=>ih vcu

def preB(bl:List BC)(i:Nat):Option BC:=bif Nat.ble 900000 i then bl[i - 900000]? else none
def OwnB(xo:Nat→Prop)(bs:Nat→Option BC)(E:Env):Nat→Prop:=fun b=>xo b∨∃i,OwnAt bs E i b
structure BlksOk(w : World)(B : Nat)(xo : Nat → Prop)(E : Env)(bs : Nat → Option BC) : Prop where
  ok:∀i c,bs i=some c→BlkOk w B (OwnB xo bs E) E i c
  inj:∀i j b,OwnAt bs E i b→OwnAt bs E j b→i=j
  ment:∀i cells lv id,bs i=some (.var cells)→lv∈cells→Ment lv id→bs id≠none
  out:∀i wd cl sz n rows,bs i=some (.nest wd cl sz n rows)→cl=true
def FnG(C : Array Value → World → (Ending → World → Prop) → Prop)(args : List LV)(bl : List BC)(r : LV)(rbl : List (Nat × BC)) : Prop :=
  ∀ (w0 w : World) (xo : Nat → Prop) (vals : List Value) (E : Env), GH w0 → vals.length = args.length → Below w0.heap.size w0 w →
    (∀b,xo b→b<w.heap.size∧∀i,¬OwnAt (preB bl) E i b)→(∀b,xo b→w0.heap.size≤b) →
    (∀(i:Nat) lv v,args[i]?=some lv→vals[i]?=some v→RepV w w0.heap.size (OwnB xo (preB bl) E) E lv v∧∀id,Ment lv id→preB bl id≠none) →
    BlksOk w w0.heap.size xo E (preB bl) →
    C vals.toArray w fun e w' => ∃ v E', e = .returned v ∧ Below w0.heap.size w0 w' ∧ w.heap.size ≤ w'.heap.size ∧
      (∀b,b<w.heap.size→(∀i,¬OwnAt (preB bl) E i b)→w'.heap[b]?=w.heap[b]?) ∧
      (∀i,900000≤i→look rbl i≠none→E' i=E i∧preB bl i≠none) ∧
      (∀i b,OwnAt (look rbl) E' i b→w.heap.size≤b∨∃j,OwnAt (preB bl) E j b) ∧
      (RepV w' w0.heap.size (OwnB xo (look rbl) E') E' r v∧∀id,Ment r id→look rbl id≠none)∧BlksOk w' w0.heap.size xo E' (look rbl)

def FnM(P:Program)(f:FuncId)(args:List LV)(bl:List BC)(r:LV)(rbl:List (Nat×BC)):Prop:=FnG (Calls P f) args bl r rbl
def ExtC(P:Program)(f:FuncId)(vals:Array Value)(w:World)(R:Ending→World→Prop):Prop:=∃v w',(callFunc f vals).run P w=.ok (.value v) w'∧R (.returned v) w'
def FnX(P:Program)(f:FuncId)(args:List LV)(bl:List BC)(r:LV)(rbl:List (Nat×BC)):Prop:=FnG (ExtC P f) args bl r rbl

mutual
theorem zh4(g : Nat → Nat) : ∀(lv : LV) (id : Nat), Ment (ren g lv) id → ∃k, id = g k ∧ Ment lv k
  |.agg l, id, h => by
    simp only[ren] at h
    cases h with
    |agg _ y _ hy hm=>obtain⟨x,k,h1,h2,h3⟩:=zla g l y id hy hm;exact⟨k,h2,.agg l x k h1 h3⟩
  |.tup l, id, h => by
    simp only[ren] at h
    cases h with
    |tup _ y _ hy hm=>obtain⟨x,k,h1,h2,h3⟩:=zla g l y id hy hm;exact⟨k,h2,.tup l x k h1 h3⟩
  |.clo f l, id, h => by
    simp only[ren] at h
    cases h with
    |clo _ _ y _ hy hm=>obtain⟨x,k,h1,h2,h3⟩:=zla g l y id hy hm;exact⟨k,h2,.clo f l x k h1 h3⟩
  |.own i,id,h=>by simp only[ren] at h;cases h;exact⟨i,rfl,.own i⟩
  |.mp i,id,h=>by simp only[ren] at h;cases h;exact⟨i,rfl,.mp i⟩
  |.vp i off,id,h=>by simp only[ren] at h;cases h;exact⟨i,rfl,.vp i off⟩
  |.ap i sz k off,id,h=>by simp only[ren] at h;cases h;exact⟨i,rfl,.ap i sz k off⟩
  |.whn b v, id, h => by
    simp only[ren] at h
    cases h with
    |whn _ _ _ hb hm=>obtain⟨k,h1,h2⟩:=zh4 g v id hm;exact⟨k,h1,.whn b v k hb h2⟩
  |.int _ _,id,h=>by simp only[ren] at h;cases h
  |.bool _,id,h=>by simp only[ren] at h;cases h
  |.str _,id,h=>by simp only[ren] at h;cases h
  |.ro _ _ _ _,id,h=>by simp only[ren] at h;cases h
  |.ep _ _,id,h=>by simp only[ren] at h;cases h
  |.nilS,id,h=>by simp only[ren] at h;cases h
  |.nilM,id,h=>by simp only[ren] at h;cases h
  |.rm _ _,id,h=>by simp only[ren] at h;cases h
  |.nilP,id,h=>by simp only[ren] at h;cases h
  |.fn _,id,h=>by simp only[ren] at h;cases h
  |.k _ _,id,h=>by simp only[ren] at h;cases h
  |.er _,id,h=>by simp only[ren] at h;cases h
  |.fv,id,h=>by simp only[ren] at h;cases h
  |.any,id,h=>by simp only[ren] at h;cases h
  |.ifc t v, id, h => by
    simp only[ren] at h
    cases h with
    |ifc _ _ _ hm=>obtain⟨k,h1,h2⟩:=zh4 g v id hm;exact⟨k,h1,.ifc t v k h2⟩
theorem zla(g : Nat → Nat) : ∀(l : List LV) (y : LV) (id : Nat), y ∈ renL g l → Ment y id → ∃x k, x ∈ l ∧ id = g k ∧ Ment x k
  |[],y,id,hy,h=>by simp[renL] at hy
  |v :: r, y, id, hy, h => by
    simp only[renL,oS] at hy
    rcases hy with rfl | hy
    · obtain ⟨k,h1,h2⟩:=zh4 g v id h;exact ⟨v,k,vdj,h1,h2⟩
    · obtain ⟨x,k,h1,h2,h3⟩:=zla g r y id hy h;exact ⟨x,k,by simp [h1],h2,h3⟩
end
theorem zru{g : Nat → Nat} : ∀{l : List LV} {y : LV}, y ∈ renL g l → ∃x ∈ l, y = ren g x
  |v :: r, y, h => by
    simp only[renL,oS] at h
    rcases h with rfl | h
    · grind
    · obtain ⟨x,h1,h2⟩:=zru h;exact ⟨x,by simp [h1],h2⟩
def renB(g : Nat → Nat) : BC → BC
  |.var cs=>.var (renL g cs)
  |.arr sz n row=>.arr sz n row
  |.mp kd m=>.mp kd m
  |.nest wd cl sz n rows=>.nest wd cl sz n rows
  |.bld T e s=>.bld T e s
theorem BlkOk.renamed{w : World}{B : Nat}{X : Nat → Prop}{E : Env}{i : Nat}{c : BC}(h : BlkOk w B X E i c){X' : Nat → Prop}{E' : Env}{g : Nat → Nat}{i' : Nat}(hX : ∀b, X' b → X b)(hE : E' i' = E i)(hS : ∀b, E'.s i' b ↔ E.s i b)(ho : ∀wd cl sz n rows, c = .nest wd cl sz n rows → cl = true)(hm : ∀cells lv id, c = .var cells → lv ∈ cells → Ment lv id → E' (g id) = E id) : BlkOk w B X' E' i' (renB g c) := by
 cases c with
 |var cells =>obtain⟨b,vs,T,h1,h2,h3,h4,h5⟩:=h;refine⟨b,vs,T,vcR,h2,h3,by rw[zdi];exact h4,fun j lv v hl hv=>?_⟩;rw[zfl] at hl;simp only[ou] at hl;obtain⟨x,hx,rfl⟩:=hl;exact(h5 j x v hx hv).renamed (oz _) hX fun id hid=>hm cells x id rfl (oY hx) hid
 |mp kd m =>obtain⟨b,es,ck,h1,h2,h3,h4⟩:=h;exact⟨b,es,ck,vcR,h2,h3,h4⟩
 |bld T e s =>obtain⟨b,v,p,h1,h2,h3⟩:=h;exact⟨b,v,p,vcR,h2,fun g=>(hS g).trans (h3 g)⟩
 |arr sz n row =>
  refine⟨by rw[hE];exact h.1,?_⟩;rw[hE];rcases h.2 with h1 | ⟨b,cap,vs,T,h1,h2,h3,h4,h5,h6,h7,h8⟩
  ·grind
  exact .inr ⟨b,cap,vs,T,h1,h2,h3,h4,h5,h6,h7,fun k hk=>⟨(h8 k hk).1,(h8 k hk).2.1,fun j lv v hl hv=>((h8 k hk).2.2 j lv v hl hv).keep (oz _) (fun _ _ _=>rfl) (fun b hb=>.inl (hX b hb)) (oz _)⟩⟩
 |nest wd cl sz n rows =>exact h.move (ho wd cl sz n rows rfl) (oz _) hX hE hS
theorem zc0{α : Type} : ∀{l : List (Nat × α)} {i : Nat} {c : α}, look l i = some c → (i, c) ∈ l
  |[],i,c,h=>by simp[look] at h
  |y :: l, i, c, h => by
    simp only[look] at h
    cases hb:Nat.beq y.1 i with
    |true =>
      rw[hb] at h
      have:=oo hb
      grind
    |false=>rw[hb] at h;exact List.mem_cons_of_mem _ (zc0 h)
theorem zkd{α β : Type}(f : Nat → Nat)(h : Nat × α → β) : ∀{l : List (Nat × α)} {j : Nat} {y : β}, look (l.map fun x => (f x.1, h x)) j = some y → ∃i c, f i = j ∧ look l i = some c ∧ y = h (i, c)
  |[],j,y,hy=>by simp[look] at hy
  |x :: l, j, y, hy => by
    rw[List.map_cons,zbx] at hy
    simp only at hy
    by_cases e:j=f x.1
    · rw [if_pos e] at hy
      cases hy
      exact⟨x.1,x.2,e.symm,by simp[look],rfl⟩
    · rw [if_neg e] at hy
      obtain⟨i,c,h1,h2,h3⟩:=zkd f h hy
      refine⟨i,c,h1,?_,h3⟩
      have hne:i≠x.1:=fun q=>e (by rw[←h1,q])
      have:=zbx x.1 x.2 l
      simp_all
theorem zqg{α β : Type}(f : Nat → Nat)(h : Nat × α → β){l : List (Nat × α)}{i : Nat}(hi : look l i ≠ none) : look (l.map fun x => (f x.1, h x)) (f i) ≠ none := by
 obtain⟨c, hc⟩ := oP.1 hi;have hm := zc0 hc;have : ∀{l : List (Nat × α)}, (i, c) ∈ l → look (l.map fun x => (f x.1, h x)) (f i) ≠ none := by
  intro l;induction l with
  |nil =>intro h;cases h
  |cons x l ih =>rw[List.map_cons,zbx];grind
 grind
theorem zmq{α β γ : Type}(f : Nat → Nat)(h : Nat × α → β)(k : β → γ) : ∀(l : List (Nat × α)) (j : Nat), (look (l.map fun x => (f x.1, h x)) j).map k = look (l.map fun x => (f x.1, k (h x))) j
  |[],j=>by simp[look]
  |x :: l, j => by
    rw[List.map_cons,List.map_cons,zbx,zbx]
    simp only
    split
    · rfl
    · exact zmq f h k l j
end Go.Lite
