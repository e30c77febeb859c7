/- The operations of LiteB are sound. Conditions: none; over any program. -/
import Derived.Test.YtnibbmmljamolaaGreatLiteB
set_option linter.unusedVariables false
namespace Go.Lite
open Go Go.RowKit

section inv
variable {w:World} {B:Nat} {X:Nat→Prop} {E:Env} {v:Value}
theorem RepV.int_inv{k:IntKind}{n:Int}(h:RepV w B X E (.int k n) v):v=.int k n:=by cases h with | c _ _ h=>cases h;rfl
theorem RepV.bool_inv{b:Bool}(h:RepV w B X E (.bool b) v):v=.bool b:=by cases h with | c _ _ h=>cases h;rfl
theorem RepV.str_inv{s:List UInt8}(h:RepV w B X E (.str s) v):v=.string ⟨s.toArray⟩:=by cases h with | c _ _ h=>cases h;rfl
theorem RepV.fn_inv{f:Nat}(h:RepV w B X E (.fn f) v):v=.func (.func f) #[] #[]:=by cases h with | c _ _ h=>cases h;rfl
theorem RepV.nilS_inv(h:RepV w B X E .nilS v):v=.slice none 0 0:=by cases h with | c _ _ h=>cases h;rfl
theorem RepV.nilP_inv(h:RepV w B X E .nilP v):v=.pointer none:=by cases h with | c _ _ h=>cases h;rfl
theorem RepV.rm_inv{kd:KD}{m:MV}(h:RepV w B X E (.rm kd m) v):RepC w B X (.rm kd m) v:=by cases h with | c _ _ h=>exact h
theorem RepV.nilM_inv(h:RepV w B X E .nilM v):v=.map none:=by cases h with | c _ _ h=>cases h;rfl
theorem RepV.vp_inv{id off : Nat}(h : RepV w B X E (.vp id off) v) : ∃b, (E id).b = some b ∧ v = .pointer (some ⟨b, off, none⟩) := by
 cases h with
 |c _ _ h =>cases h
 |vp _ _ b hb =>exact⟨b,hb,rfl⟩
theorem RepV.mp_inv{id : Nat}(h : RepV w B X E (.mp id) v) : ∃b, (E id).b = some b ∧ v = .map (some b) := by
 cases h with
 |c _ _ h =>cases h
 |mp _ b hb =>exact⟨b,hb,rfl⟩
theorem RepV.own_inv{id : Nat}(h : RepV w B X E (.own id) v) : v = (E id).val := by
 cases h with
 |c _ _ h =>cases h
 |own =>rfl
theorem RepV.ap_inv{id sz i off : Nat}(h : RepV w B X E (.ap id sz i off) v) : ∃b, (E id).b = some b ∧ i < (E id).n ∧ v = .pointer (some ⟨b, (E id).off + i * sz + off, none⟩) := by
 cases h with
 |c _ _ h =>cases h
 |ap _ _ _ _ b hb hi =>exact⟨b,hb,hi,rfl⟩
theorem RepV.ro_inv{fr:Bool}{sz n:Nat}{row:Nat→List LV}(h:RepV w B X E (.ro fr sz n row) v):RepC w B X (.ro fr sz n row) v:=by cases h with | c _ _ h=>exact h
theorem RepV.ep_inv{row:List LV}{off:Nat}(h:RepV w B X E (.ep row off) v):RepC w B X (.ep row off) v:=by cases h with | c _ _ h=>exact h
theorem RepV.tup_inv{l : List LV}(h : RepV w B X E (.tup l) v) : ∃vs : Array Value, v = .tuple vs ∧ vs.size = l.length ∧ ∀(i : Nat) lv u, l[i]? = some lv → vs[i]? = some u → RepV w B X E lv u := by
 cases h with
 |c _ _ h =>cases h with|tup _ vs hl h=>exact⟨vs,rfl,hl,fun i lv u h1 h2=>.c _ _ (h i lv u h1 h2)⟩
 |tup _ vs hl h =>exact⟨vs,rfl,hl,h⟩
theorem RepV.agg_inv{l : List LV}(h : RepV w B X E (.agg l) v) : ∃vs : Array Value, v = .agg vs ∧ vs.size = l.length ∧ ∀(i : Nat) lv u, l[i]? = some lv → vs[i]? = some u → RepV w B X E lv u := by
 cases h with
 |c _ _ h =>cases h with|agg _ vs hl h=>exact⟨vs,rfl,hl,fun i lv u h1 h2=>.c _ _ (h i lv u h1 h2)⟩
 |agg _ vs hl h =>exact⟨vs,rfl,hl,h⟩
theorem RepV.clo_inv{f : Nat}{l : List LV}(h : RepV w B X E (.clo f l) v) : ∃vs : Array Value, v = .func (.func f) #[] vs ∧ vs.size = l.length ∧ ∀(i : Nat) lv u, l[i]? = some lv → vs[i]? = some u → RepV w B X E lv u := by
 cases h with
 |c _ _ h =>cases h with|clo _ _ vs hl h=>exact⟨vs,rfl,hl,fun i lv u h1 h2=>.c _ _ (h i lv u h1 h2)⟩
 |clo _ _ vs hl h =>exact⟨vs,rfl,hl,h⟩
theorem RepV.k_inv{b o:Nat}(h:RepV w B X E (.k b o) v):v=.pointer (some ⟨b,o,none⟩):=by cases h with | c _ _ h=>cases h;rfl
theorem RepV.er_inv{b:Bool}(h:RepV w B X E (.er b) v):RepC w B X (.er b) v:=by cases h with | c _ _ h=>exact h
theorem RepV.fv_inv(h:RepV w B X E .fv v):RepC w B X .fv v:=by cases h with | c _ _ h=>exact h
theorem RepV.any_inv(h:RepV w B X E .any v):RepC w B X .any v:=by cases h with | c _ _ h=>exact h
theorem RepV.ifc_inv{t : Nat}{lv : LV}(h : RepV w B X E (.ifc t lv) v) : ∃u, v = .iface t u ∧ RepV w B X E lv u := by
 cases h with
 |c _ _ h =>cases h with|ifc _ _ u h=>exact⟨u,rfl,.c _ _ h⟩
 |ifc _ _ u h =>exact⟨u,rfl,h⟩
theorem RepV.strip{lv : LV}(h : RepV w B X E lv v)(ha : All (strip lv).2) : RepV w B X E (strip lv).1 v := by
 unfold Lite.strip at *;split at ha
 ·cases h with
  |c _ _ h =>cases h
  |whn _ _ _ h1 _ =>exact h1 ha.1
 exact h
end inv

theorem zyh{lv : LV}{id : Nat}(h : Ment (strip lv).1 id)(ha : All (strip lv).2) : Ment lv id := by
 unfold Lite.strip at h ha;split at h
 ·exact .whn _ _ _ ha.1 h
 exact h

theorem ztp{w : World}{B : Nat}{X : Nat → Prop}{v : Value}{lv : LV}(h : ofVal v = some lv) : RepC w B X lv v := by
 unfold ofVal at h;split at h<;>first|(cases h;done)|skip
 ·cases h; exact .int _ _
 ·cases h; exact .bool _
 ·cases h;rename_i s;exact .str s.data.toList
 ·cases h; exact .nilS
 ·cases h; exact .nilM
 ·cases h; exact .nilP
 ·cases h; exact .er false _ (fun _ => rfl) (fun h => vdf)
 cases h;exact .fv0
theorem zje{w : World}{B : Nat}{X : Nat → Prop} : ∀{vs : List Value} {l : List LV}, zmp vs = some l → vs.length = l.length ∧ ∀(i : Nat) lv v, l[i]? = some lv → vs[i]? = some v → RepC w B X lv v
  |[],l,h=>by cases h;exact⟨rfl,fun i lv v h=>vdb⟩
  |x :: r, l, h => by
    simp only[zmp] at h
    split at h
    · rename_i y ys h1 h2
      cases h
      obtain⟨h3,h4⟩:=zje (w:=w) (B:=B) (X:=X) h2
      refine⟨by simp[h3],fun i lv v hl hv=>?_⟩
      cases i with
      |zero=>simp at hl hv;subst hl;subst hv;exact ztp h1
      |succ i=>exact h4 i lv v vcX (by simpa using hv)
    · cases h
theorem zvi{w : World}{B : Nat}{X : Nat → Prop}{v : Value}{lv : LV}(h : zvj v = some lv) : RepC w B X lv v := by
 unfold zvj at h;split at h
 ·rename_i cs;cases h1 : zmp cs.toList with
  |none =>rw[h1] at h;cases h
  |some l =>rw[h1] at h;cases h;obtain⟨h3,h4⟩:=zje (w:=w) (B:=B) (X:=X) h1;exact .agg l cs (by simpa using h3) fun i lv v hl hv=>h4 i lv v hl (by simpa using hv)
 exact ztp h

section ev
variable {N:Nat} {w0:World} {X0:Fr} {σ:FS} {E:Env} {a:Act} {w:World}
theorem Sat.own_ge(hs : Sat N w0 X0 σ E a w){i g : Nat}(hi : σ.blk i ≠ none)(hib : (E i).b = some g) : w0.heap.size ≤ g := by
 cases hc:σ.blk i with
 |none =>exact absurd hc hi
 |some c =>
  have:=hs.blks i c hc;cases c with
  |bld T e s =>obtain⟨b,v,p,h1,h2,_⟩:=this;rw[hib] at h1;cases h1;exact h2.1
  |var cells =>obtain⟨b,_,_,h1,h2,_⟩:=this;rw[hib] at h1;cases h1;exact h2
  |mp kd m =>obtain⟨b,_,_,h1,h2,_⟩:=this;rw[hib] at h1;cases h1;exact h2
  |arr sz n row =>
   rcases this.2 with h | ⟨b,_,_,_,h1,_,h2,_⟩
   ·grind
   grind
  |nest wd cl sz n rows =>obtain⟨_,_,_,h⟩:=this;grind
theorem Sat.own_geA(hs : Sat N w0 X0 σ E a w){i g : Nat}(hi : OwnAt σ.blk E i g) : w0.heap.size ≤ g := by
 rcases hi with⟨hi,hib⟩ | ⟨hi,hib⟩
 ·exact hs.own_ge hi hib
 rcases znj hi with⟨wd,cl,sz,n,rows,hc⟩ | ⟨T,e,s,hc⟩
 ·exact ((hs.blks i _ hc).nestSub hib).2.1
 exact((hs.blks i _ hc).bldSub hib).2.1
theorem zao(hs : Sat N w0 X0 σ E a w){x : Operand}{lv : LV}{p : List Prop}(h : ev σ.slot x = some (lv, p))(ha : All p) : RepV w w0.heap.size (Own σ E X0) E lv (a.eval x) ∧ ∀id, Ment lv id → σ.used id = true := by
 cases x with
 |tmp t =>simp only[ev,ou] at h;obtain⟨y,hy,hyy⟩:=h;have e1:lv=(strip y).1:=(by rw[hyy]);have e2:p=(strip y).2:=(by rw[hyy]);subst e1;subst e2;exact⟨(hs.slots t y hy).strip ha,fun id hm=>hs.wfs t y id hy (zyh hm ha)⟩
 |const v =>simp only[ev,ou] at h;obtain⟨y,hy,hyy⟩:=h;cases hyy;have:=zvi (w:=w) (B:=w0.heap.size) (X:=Own σ E X0) hy;exact⟨.c _ _ this,fun id hm=>absurd hm (this.noMent id)⟩
 |func f =>cases h;exact⟨.c _ _ (.fn f),fun id hm=>vdd⟩
 |global g =>
  simp only[ev,ou] at h;obtain⟨r,hr,he⟩:=h;cases he;obtain⟨h1,cv,h2,h3⟩:=hs.gh.row hr;have hb:=hs.below.block g h1
  have := RepC.ep (w := w) (B := w0.heap.size) (X := Own σ E X0) r 0 ⟨g, 0, none⟩ cv (by have := hs.below.size; show g < w.heap.size; omega) (fun hx => by
    rcases hx with hx | ⟨i,hi⟩
    · have h9:=hs.xge g hx;exact absurd h1 (Nat.not_lt.2 h9)
    · have h9:=hs.own_geA hi;exact absurd h1 (Nat.not_lt.2 h9)) (fun j hj=>by rw [zbv,Nat.zero_add];have:=h2 j hj;unfold World.cell? at this ⊢;simp only at this ⊢;rw [hb];exact this) (fun j lv hl=>h3 _ _ _ j lv hl)
  exact⟨.c _ _ this,fun id hm=>vdd⟩
theorem zhq(hs : Sat N w0 X0 σ E a w) : ∀{xs : List Operand} {l : List LV} {p : List Prop}, evs σ.slot xs = some (l, p) → All p →
    xs.length=l.length∧∀(i:Nat) lv,l[i]?=some lv→∃x,xs[i]?=some x∧RepV w w0.heap.size (Own σ E X0) E lv (a.eval x)∧∀id,Ment lv id→σ.used id=true
  |[],l,p,h,_=>by cases h;exact⟨rfl,fun i lv h=>vdb⟩
  |x :: r, l, p, h, ha => by
    simp only[evs] at h
    split at h
    · rename_i y q ys q' h1 h2
      cases h
      obtain⟨ha1,ha2⟩:=All.append.1 ha
      obtain⟨h3,h4⟩:=zhq hs h2 ha2
      refine⟨by simp[h3],fun i lv hl=>?_⟩
      cases i with
      |zero=>simp at hl;subst hl;exact⟨x,vdj,zao hs h1 ha1⟩
      |succ i=>exact h4 i lv vcX
    · cases h
end ev

section load
variable {P:Program} {T:TypeId}
theorem zev{b : Bool}(h : aggOf P T = some b)(w : World) : (isAgg T).run P w = .ok b w := by
 unfold aggOf at h;unfold isAgg;simp only[oF];split at h
 ·rename_i fs hu; cases h; rw [oO hu]; rfl
 ·rename_i n e hu; cases h; rw [oO hu]; rfl
 ·rename_i d h1 h2 hu;rw [oO hu];simp_all
 cases h
theorem zcj{n:Nat}(h:szOf P T=some n)(w:World):(sizeOf T).run P w=.ok n w:=by unfold szOf at h;simp only[ou] at h;obtain⟨i,hi,rfl⟩:=h;simp[sizeOf,typeInfo,hi]

variable {w:World} {B:Nat} {X:Nat→Prop} {E:Env}
theorem ztw{row : List LV}{off : Nat}{lv : LV}(h : loadL P T row off = some lv){ad : Addr}{cv : Nat → Value}(hc : ∀j, j < row.length → w.cell? (ad.add j) = some (cv j))(hr : ∀(j : Nat) x, row[j]? = some x → RepV w B X E x (cv j)) : (∃v, (loadVar T (ad.add off)).run P w = .ok v w ∧ RepV w B X E lv v) ∧ ∀id, Ment lv id → ∃x ∈ row, Ment x id := by
 unfold loadL at h;split at h
 ·rename_i n h1 h2;cases hb : Nat.ble (off + n) row.length with
  |false =>rw[hb] at h;cases h
  |true =>
   rw[hb] at h;simp only[oE,oq] at h;subst h;have hle:off+n≤row.length:=oU hb;refine⟨⟨.agg ((List.range n).map fun j=>cv (off+j)).toArray,?_,?_⟩,?_⟩
   ·simp only [loadVar, oF, zev h1, oA, if_true, zcj h2];rw [run_loadCells w (ad.add off) n (fun j => cv (off + j)) (fun j hj => by rw [zmj]; exact hc _ vdh)];rfl
   ·refine .agg _ _ (by simp; omega) fun i x u hx hu => ?_;grind
   intro id hm;cases hm with
   |agg _ x _ hx hm' =>exact⟨x,List.mem_of_mem_drop (List.mem_of_mem_take hx),hm'⟩
 ·rename_i h1;have hlt : off < row.length := vdi
  refine⟨⟨cv off,?_,hr off lv h⟩,fun id hm=>⟨lv,oY h,hm⟩⟩;simp only[loadVar,oF,zev h1,oA,oV,if_false,run_load,hc off hlt]
 cases h
end load

section vop
variable {P:Program} {N:Nat} {w0:World} {X0:Fr} {σ:FS} {E:Env} {a:Act} {w:World}

def VOk(P : Program)(w0 : World)(X0 : Fr)(σ : FS)(E : Env)(a : Act)(w : World)(o : Oper)(lv : LV) : Prop :=
  ∃v,(execOp a.eval o).run P w=.ok (.value v) w∧RepV w w0.heap.size (Own σ E X0) E lv v∧∀id,Ment lv id→σ.used id=true

theorem zst{T f k : Nat}(h : znp P T f = some k)(ad : Addr)(w : World) : (Instr.fieldAt T (.pointer (some ad)) f).run P w = .ok (.pointer (some (ad.add k))) w := by
 unfold znp at h;split at h
 ·rename_i fs hu;split at h
  ·rename_i fl hf;split at h
   ·rename_i n hz;cases h;simp only [Instr.fieldAt, oF, oO hu, oA, hf, Instr.sureAddr, fieldPlace, zcj hz];simp
   cases h
  cases h
 cases h

theorem z2k(hs : Sat N w0 X0 σ E a w){o : Oper}{c x y : Operand}(ho : o.op = .pick c x y){bx by' bz : Bool}{p q r : List Prop}(h1 : ev σ.slot c = some (.bool bx, p))(h2 : ev σ.slot x = some (.bool by', q))(h3 : ev σ.slot y = some (.bool bz, r))(ha : All (p ++ (q.map fun t => bx = true → t) ++ (r.map fun t => bx = false → t))) : VOk P w0 X0 σ E a w o (.bool (cond bx by' bz)) := by
 obtain⟨hab,hr⟩:=All.append.1 ha;obtain⟨hp,hq⟩:=All.append.1 hab;have e1:=(zao hs h1 hp).1.bool_inv;refine⟨.bool (cond bx by' bz),?_,.c _ _ (.bool _),fun id hm=>vdd⟩;simp only[execOp,ho,e1,asBool];cases bx with
 |true =>have e2:=(zao hs h2 (hq.map_imp rfl)).1.bool_inv;simp[e2]
 |false =>have e3:=(zao hs h3 (hr.map_imp rfl)).1.bool_inv;simp[e3]

theorem zrk(hs:Sat N w0 X0 σ E a w){o:Oper}{T:TypeId}{x:Operand}(ho:o.op=.load T x){lv:LV}{row:List LV}{off:Nat}(hl:loadL P T row off=some lv){ad:Addr}{cv:Nat→Value}(he:a.eval x=.pointer (some (ad.add off)))(hc:∀j,j<row.length→w.cell? (ad.add j)=some (cv j))(hr:∀(j:Nat) y,row[j]?=some y→RepV w w0.heap.size (Own σ E X0) E y (cv j))(hm:∀y,y∈row→∀id,Ment y id→σ.used id=true):VOk P w0 X0 σ E a w o lv:=by obtain⟨⟨v,h1,h2⟩,h3⟩:=ztw hl hc hr;refine⟨v,?_,h2,fun id hmm=>by obtain⟨y,hy,hyy⟩:=h3 id hmm;exact hm y hy id hyy⟩;simp only[execOp,ho,oF,he,Instr.loadAt,Instr.sureAddr,oL,oA,h1]

theorem zs5(hs : Sat N w0 X0 σ E a w){o : Oper}{T : TypeId}{x : Operand}(ho : o.op = .load T x){lv : LV}{id off : Nat}{cells : List LV}(hx : RepV w w0.heap.size (Own σ E X0) E (.vp id off) (a.eval x))(hb : σ.blk id = some (.var cells))(hl : loadL P T cells off = some lv) : VOk P w0 X0 σ E a w o lv := by
 obtain⟨b,g1,g2⟩:=hx.vp_inv;obtain⟨b',vs,T',k1,k2,k3,k4,k5⟩:=hs.blks id _ hb;rw[g1] at k1;cases k1;refine zrk hs ho hl (ad:=⟨b,0,none⟩) (cv:=fun j=>vs.getD j undef) (by rw[zbv,Nat.zero_add];exact g2) (fun j hj=>?_) (fun j y hy=>?_) fun y hy id' hm=>hs.wfb id cells y id' hb hy hm
 ·rw [zbv, Nat.zero_add];have hj' : j < vs.size := vdh
  simp[World.cell?,k3,hj']
 have hj:j<vs.size:=vdi
 exact k5 j y _ hy (by simp[hj])

theorem zuu(hs : Sat N w0 X0 σ E a w){o : Oper}{T : TypeId}{x : Operand}(ho : o.op = .load T x){lv : LV}{row : List LV}{off : Nat}(hx : RepV w w0.heap.size (Own σ E X0) E (.ep row off) (a.eval x))(hl : loadL P T row off = some lv) : VOk P w0 X0 σ E a w o lv := by
 have h:=hx.ep_inv;generalize he:a.eval x=v at h;cases h with
 |ep _ _ ad cv hlt hX hc hr =>exact zrk hs ho hl he hc (fun j y hy=>.c _ _ (hr j y hy)) fun y hy id hm=>by obtain⟨j,hj,e⟩:=oZ hy;exact absurd hm ((hr j y (by rw[ol hj,e])).noMent id)

theorem zuv(hs : Sat N w0 X0 σ E a w){o : Oper}{T : TypeId}{x : Operand}(ho : o.op = .load T x){lv : LV}{id sz i off n : Nat}{row : Nat → List LV}(hx : RepV w w0.heap.size (Own σ E X0) E (.ap id sz i off) (a.eval x))(hb : σ.blk id = some (.arr sz n row))(hl : loadL P T (row i) off = some lv) : VOk P w0 X0 σ E a w o lv := by
 obtain⟨b,g1,g2,g3⟩:=hx.ap_inv;obtain⟨hn,hk⟩:=hs.blks id _ hb;rcases hk with⟨k1,_⟩ | ⟨b',cap,vs,T',k1,k2,k3,k4,k5,k6,k7,k8⟩
 ·grind
 rw[g1] at k1;cases k1;rw[hn] at g2;obtain⟨hsz,_,hrow⟩:=k8 i g2;have hbd:∀j,j<sz→(E id).off+i * sz+j<vs.size:=fun j hj=>by have h1:i * sz+sz≤cap * sz:=vcd;omega
 refine zrk hs ho hl (ad:=⟨b,(E id).off+i * sz,none⟩) (cv:=fun j=>vs.getD ((E id).off+i * sz+j) undef) (by rw[zbv];exact g3) (fun j hj=>?_) (fun j y hy=>?_) fun y hy id' hm=>?_
 ·rw [zbv];have := hbd j vdh;simp [World.cell?, k4, this]
 ·have hj : j < sz := vdi
  have:=hbd j hj;exact .c _ _ (hrow j y _ hy (by simp[this]))
 obtain⟨j,hj,e⟩:=oZ hy;have:=hbd j vdh;exact absurd hm ((hrow j y (vs.getD ((E id).off+i * sz+j) undef) (by rw[ol hj,e]) (by simp[this])).noMent id')

theorem zhv(hs : Sat N w0 X0 σ E a w){o : Oper}{T f : Nat}{x : Operand}(ho : o.op = .fieldAddr T x f){k : Nat}(hk : znp P T f = some k){lv : LV}(hx : RepV w w0.heap.size (Own σ E X0) E lv (a.eval x))(hm : ∀id, Ment lv id → σ.used id = true) : (∀id off, lv = .vp id off → VOk P w0 X0 σ E a w o (.vp id (off + k))) ∧ (∀row off, lv = .ep row off → VOk P w0 X0 σ E a w o (.ep row (off + k))) ∧ (∀id sz i off, lv = .ap id sz i off → VOk P w0 X0 σ E a w o (.ap id sz i (off + k))) := by
 have run:∀ad:Addr,a.eval x=.pointer (some ad)→(execOp a.eval o).run P w=.ok (.value (.pointer (some (ad.add k)))) w:=fun ad he=>by simp only[execOp,ho,oF,he,zst hk,oA,oL]
 refine⟨?_,?_,?_⟩
 ·rintro id off rfl;obtain ⟨b, g1, g2⟩ := hx.vp_inv;exact ⟨_, run _ g2, by rw [zbv]; exact .vp id (off + k) b g1, fun id' hm' => by cases hm'; exact hm id (.vp id off)⟩
 ·rintro row off rfl;have h := hx.ep_inv;generalize he : a.eval x = v at h;cases h with
  |ep _ _ ad cv hlt hX hc hr =>exact⟨_,run _ he,.c _ _ (by rw[zmj];exact .ep row (off+k) ad cv hlt hX hc hr),fun id hm'=>by cases hm'⟩
 rintro id sz i off rfl;obtain⟨b,g1,g2,g3⟩:=hx.ap_inv;exact⟨_,run _ g3,by rw[zbv,Nat.add_assoc ((E id).off+i * sz)];exact .ap id sz i (off+k) b g1 g2,fun id' hm'=>by cases hm';exact hm id (.ap id sz i off)⟩

theorem z1d{T e:TypeId}(h:P.underlying T=some (.slice e)):P.underlying T=some (.slice (P.elem T)):=by unfold Program.elem;rw[h]
theorem z5t{T e:TypeId}(h:P.underlying T=some (.slice e)):P.elem T=e:=by unfold Program.elem;rw[h]
theorem zpq{T e s:Nat}(hu:P.underlying T=some (.slice e))(hz:szOf P e=some s){ad:Addr}{len cap:Nat}{k:IntKind}{j:Int}(h0:0≤j)(h1:j<(len:Int))(w:World):(Instr.indexAt T (.slice (some ad) len cap) (.int k j)).run P w=.ok (.pointer (some (ad.add (j.toNat * s)))) w:=by rw[run_indexAt_slice w T ad len cap k j (z1d hu),if_pos ⟨h0,h1⟩,z5t hu,zcj hz];rfl

theorem zs6(hs : Sat N w0 X0 σ E a w){o : Oper}{T : Nat}{x i : Operand}(ho : o.op = .indexAddr T x i){e s : Nat}(hu : P.underlying T = some (.slice e))(hz : szOf P e = some s){fr : Bool}{n : Nat}{row : Nat → List LV}(hx : RepV w w0.heap.size (Own σ E X0) E (.ro fr s n row) (a.eval x)){k : IntKind}{j : Int}(hi : RepV w w0.heap.size (Own σ E X0) E (.int k j) (a.eval i))(h0 : 0 ≤ j)(h1 : j < (n : Int)) : VOk P w0 X0 σ E a w o (.ep (row j.toNat) 0) := by
 have hi:=hi.int_inv;have h:=hx.ro_inv;generalize he:a.eval x=v at h;cases h with
 |ro _ _ _ _ A ad cap cv hcap hA hlt hX hb hsz ho1 hc hr =>have hn:0<n:=vdh;have hj:j.toNat<n:=vdh;rw[hA hn] at he;refine⟨.pointer (some (ad.add (j.toNat * s))),vb3,.c _ _ ?_,fun id hm=>vdd⟩;have:=RepC.ep (w:=w) (B:=w0.heap.size) (X:=Own σ E X0) (row j.toNat) 0 (ad.add (j.toNat * s)) (cv j.toNat) (by rw[zed];exact hlt hn) (by rw[zed];exact hX hn) (fun m hm=>by rw[zmj];exact hc j.toNat m hj (by rw[hsz _ hj] at hm;exact hm)) (fun m lv hl=>hr j.toNat m lv hj hl);assumption

theorem zrm(hs : Sat N w0 X0 σ E a w){o : Oper}{T : Nat}{x i : Operand}(ho : o.op = .indexAddr T x i){e n : Nat}(hu : P.underlying T = some (.array n e))(hz : szOf P e = some 1){row : List LV}(hn : row.length = n)(hx : RepV w w0.heap.size (Own σ E X0) E (.ep row 0) (a.eval x)){k : IntKind}{j : Int}(hi : RepV w w0.heap.size (Own σ E X0) E (.int k j) (a.eval i))(h0 : 0 ≤ j)(h1 : j < (n : Int)) : VOk P w0 X0 σ E a w o (.ep [row.getD j.toNat .nilS] 0) := by
 have hi:=hi.int_inv;generalize he:a.eval x=v at hx;cases hx with
 |c _ _ h =>
  cases h with
  |ep _ _ ad cv hlt hX hc hr =>
   have hal:P.arrayLen T=n:=(by unfold Program.arrayLen;rw[hu]);have hel:P.elem T=e:=(by unfold Program.elem;rw[hu]);have ha0:ad.add 0=ad:=(by unfold Addr.add;simp);refine⟨.pointer (some (ad.add (j.toNat * 1))),?_,.c _ _ ?_,fun id hm=>vdd⟩
   ·simp only [execOp, ho, oF, he, hi];rw [ha0, run_indexAt_array w T ad k j (by rw [hal, hel]; exact hu), if_pos ⟨h0, by rw [hal]; exact h1⟩, hel, zcj hz];simp_all
   have := RepC.ep (w := w) (B := w0.heap.size) (X := Own σ E X0) [row.getD j.toNat .nilS] 0 (ad.add j.toNat) (fun m => cv (j.toNat + m)) (by rw [zed]; exact hlt) (by rw [zed]; exact hX)
     (fun m hm => by rw [zmj]; exact hc _ (by simp at hm; omega)) (fun m lv hl => by
       cases m with
       |zero =>
         grind
       |succ m=>simp at hl)
   rw[Nat.mul_one];exact this

theorem zpn(hs:Sat N w0 X0 σ E a w){o:Oper}{T:Nat}{x i:Operand}(ho:o.op=.indexAddr T x i){e n s:Nat}(hu:P.underlying T=some (.array n e))(hz:szOf P e=some s){id m:Nat}{row:Nat→List LV}(hx:RepV w w0.heap.size (Own σ E X0) E (.ap id s 0 0) (a.eval x))(hb:σ.blk id=some (.arr s m row)){k:IntKind}{j:Int}(hi:RepV w w0.heap.size (Own σ E X0) E (.int k j) (a.eval i))(h0:0≤j)(h1:j<(n:Int))(h2:j<(m:Int)):VOk P w0 X0 σ E a w o (.ap id s j.toNat 0):=by have hi:=hi.int_inv;obtain⟨b,hbb,hn,e1⟩:=hx.ap_inv;have hal:P.arrayLen T=n:=(by unfold Program.arrayLen;rw[hu]);have hel:P.elem T=e:=(by unfold Program.elem;rw[hu]);have hm:(E id).n=m:=(hs.blks id _ hb).1;refine⟨.pointer (some ⟨b,(E id).off+j.toNat * s+0,none⟩),?_,.ap id s _ _ b hbb vdh,fun id' hm'=>by cases hm';exact hs.live id vc5⟩;simp only[execOp,ho,oF,e1,hi];rw[run_indexAt_array w T _ k j (by rw[hal,hel];exact hu),if_pos ⟨h0,by rw[hal];exact h1⟩,hel,zcj hz];simp only[oA,oL,zbv,Nat.zero_mul,Nat.add_zero]

theorem zrl(hs : Sat N w0 X0 σ E a w){o : Oper}{T : Nat}{x i : Operand}(ho : o.op = .indexAddr T x i){e s : Nat}(hu : P.underlying T = some (.slice e))(hz : szOf P e = some s){id n : Nat}{row : Nat → List LV}(hx : RepV w w0.heap.size (Own σ E X0) E (.own id) (a.eval x))(hb : σ.blk id = some (.arr s n row)){k : IntKind}{j : Int}(hi : RepV w w0.heap.size (Own σ E X0) E (.int k j) (a.eval i))(h0 : 0 ≤ j)(h1 : j < (n : Int)) : VOk P w0 X0 σ E a w o (.ap id s j.toNat 0) := by
 have hi:=hi.int_inv;have he:=hx.own_inv;obtain⟨hn,hk⟩:=hs.blks id _ hb;rcases hk with⟨_,_,k3⟩ | ⟨b',cap,vs,T',k1,k2,_⟩
 ·omega
 rw[k2] at he;refine⟨.pointer (some ((⟨b',(E id).off,none⟩:Addr).add (j.toNat * s))),vb3,?_,fun id' hm=>by cases hm;exact hs.live id vc5⟩;rw[zbv];exact .ap id s j.toNat 0 b' k1 (by rw[hn];omega)
theorem zpm(hs : Sat N w0 X0 σ E a w){o : Oper}{T : Nat}{x i : Operand}(ho : o.op = .indexAddr T x i){e : Nat}(hu : P.underlying T = some (.slice e)){wd : Nat}(hz : szOf P e = some wd){id n sz : Nat}{cl : Bool}{rows : Nat → NR}(hx : RepV w w0.heap.size (Own σ E X0) E (.own id) (a.eval x))(hb : σ.blk id = some (.nest wd cl sz n rows)){k : IntKind}{j : Int}(hi : RepV w w0.heap.size (Own σ E X0) E (.int k j) (a.eval i))(h0 : 0 ≤ j)(h1 : j < (n : Int)) : VOk P w0 X0 σ E a w o (.ap id wd j.toNat 0) := by
 have hi:=hi.int_inv;have he:=hx.own_inv;obtain⟨ek,_,hn,hk⟩:=hs.blks id _ hb;rcases hk with⟨_,_,k3⟩ | ⟨b',cap,vs,T',k1,k2,_⟩
 ·omega
 rw[k2] at he;refine⟨.pointer (some ((⟨b',(E id).off,none⟩:Addr).add (j.toNat * wd))),vb3,?_,fun id' hm=>by cases hm;exact hs.live id vc5⟩;rw[zbv];exact .ap id wd j.toNat 0 b' k1 (by rw[hn];omega)

theorem zy1{k k':IntKind}(h:decide (k=k')=true):k=k':=om h

theorem ztu(l:List UInt8):(⟨l.toArray⟩:ByteArray).toList=l:=by rw[ByteArray.toList_eq]

theorem okI{k:IntKind}{n:Int}{B:Nat}{X:Nat→Prop}{r:Result Value}(h:r=.ok (.int k n) w):∃v,r=.ok v w∧RepC w B X (.int k n) v:=⟨_,h,.int _ _⟩
theorem okB{b:Bool}{B:Nat}{X:Nat→Prop}{r:Result Value}(h:r=.ok (.bool b) w):∃v,r=.ok v w∧RepC w B X (.bool b) v:=⟨_,h,.bool _⟩

theorem z3q{op : BinOp}{wr : Bool}{x y lv : LV}{p : List Prop}(h : binL op wr x y = some (lv, p))(ha : All p){T : TypeId}{vx vy : Value}{B : Nat}{X : Nat → Prop}(hx : RepV w B X E x vx)(hy : RepV w B X E y vy) : (∃v, (binOp op T vx vy).run P w = .ok v w ∧ RepC w B X lv v) := by
 unfold binL at h;split at h
 ·rename_i k a' k' b';have ex := hx.int_inv;have ey := hy.int_inv;subst ex; subst ey;cases hk : decide (k = k') with
  |false =>
   rw[hk] at h;simp only[oD] at h;cases op<;>simp only[reduceCtorEq] at h
   case shl => cases wr <;> simp only [oE, oD, oq, o8] at h <;> obtain ⟨rfl, rfl⟩ := h
               · exact okI vbV
               · exact okI (by rw [binOp_shl,shift_shl _ _ _ _ ha.1.1 ha.1.2];rfl)
   case shr=>simp only[oq,o8] at h;obtain⟨rfl,rfl⟩:=h;exact okI (by rw[binOp_shr,shift_shr _ _ _ _ ha.1.1 ha.1.2];rfl)
  |true =>
   have hkk:=zy1 hk;subst hkk;rw[hk] at h;simp only[oE] at h;cases op<;>simp only[reduceCtorEq] at h
   case add => cases wr <;> simp only [oE, oD, oq, o8] at h <;> obtain ⟨rfl, rfl⟩ := h
               · exact okI (by simp [binOp_add,Op.intArith,zc3 ha.1])
               · exact okI (by simp [binOp_add,Op.intArith])
   case sub => cases wr <;> simp only [oE, oD, oq, o8] at h <;> obtain ⟨rfl, rfl⟩ := h
               · exact okI (by simp [binOp_sub,Op.intArith,zc3 ha.1])
               · exact okI (by simp [binOp_sub,Op.intArith])
   case mul => cases wr <;> simp only [oE, oD, oq, o8] at h <;> obtain ⟨rfl, rfl⟩ := h
               · exact okI (by simp [binOp_mul,Op.intArith,zc3 ha.1])
               · exact okI (by simp [binOp_mul,Op.intArith])
   case quo => cases wr <;> simp only [oE, oD, oq, o8] at h <;> obtain ⟨rfl, rfl⟩ := h
               · exact okI (by simp [binOp_quo,Op.intDiv,zc3 ha.2.1,ha.1])
               · exact okI (by simp [binOp_quo,Op.intDiv,ha.1])
   case rem=>simp only[oq,o8] at h;obtain⟨rfl,rfl⟩:=h;exact okI (by simp[binOp_rem,Op.intDiv,ha.1])
   case and=>simp only[oq,o8] at h;obtain⟨rfl,rfl⟩:=h;exact okI (by simp[binOp_and,intBits_and])
   case or=>simp only[oq,o8] at h;obtain⟨rfl,rfl⟩:=h;exact okI (by simp[binOp_or,intBits_or])
   case xor=>simp only[oq,o8] at h;obtain⟨rfl,rfl⟩:=h;exact okI (by simp[binOp_xor,intBits_xor])
   case shl => cases wr <;> simp only [oE, oD, oq, o8] at h <;> obtain ⟨rfl, rfl⟩ := h
               · exact okI vbV
               · exact okI (by rw [binOp_shl,shift_shl _ _ _ _ ha.1.1 ha.1.2];rfl)
   case shr=>simp only[oq,o8] at h;obtain⟨rfl,rfl⟩:=h;exact okI (by rw[binOp_shr,shift_shr _ _ _ _ ha.1.1 ha.1.2];rfl)
   all_goals (simp only[oq,o8] at h;obtain⟨rfl,rfl⟩:=h;exact okB (by simp[binOp,Op.intCmp,bne,BEq.beq]))
 ·rename_i a' b';have ex := hx.str_inv;have ey := hy.str_inv;subst ex; subst ey;cases op <;> simp only [reduceCtorEq] at h
  case add =>
    obtain⟨rfl,rfl⟩:=h
    refine⟨.string (⟨a'.toArray⟩++⟨b'.toArray⟩),?_,?_⟩
    · have hh : ¬ (((⟨a'.toArray⟩ : ByteArray).size + (⟨b'.toArray⟩ : ByteArray).size : Nat) : Int) > IntKind.i64.max := by
        simp[IntKind.max,IntKind.signed,IntKind.bits,ByteArray.size]
        have:=ha.1
        omega
      simp only[binOp,Op.stringOp]
      simp_all
    · have : (⟨a'.toArray⟩ ++ ⟨b'.toArray⟩ : ByteArray) = ⟨(a' ++ b').toArray⟩ := by
        apply ByteArray.ext
        simp
      exact .str _
  all_goals (simp only[oq,o8] at h;obtain⟨rfl,rfl⟩:=h;exact okB (by simp only[binOp,Op.stringOp,ztu];rfl))
 cases h

theorem zzy{T : Nat}(hu : P.underlying T = some .bool){x y : Bool} : (binOp .eql T (.bool x) (.bool y)).run P w = .ok (.bool (x == y)) w ∧ (binOp .neq T (.bool x) (.bool y)).run P w = .ok (.bool (!(x == y))) w := by
 have h:∀d:Nat,(Op.equalIn (d+1) T (.bool x) (.bool y)).run P w=.ok (x==y) w:=fun d=>by simp[Op.equalIn,oO hu]
 constructor
 ·simp only [binOp];simp [Op.equal, Op.maxDepth, h 9999]
 simp only[binOp];simp[Op.equal,Op.maxDepth,h 9999]
theorem zs0{α : Type}{c : Bool}{x y : α}(h : (bif c then some x else none) = some y) : c = true ∧ x = y := by
 cases c with
 |true =>exact⟨rfl,vc3⟩
 |false =>cases h
theorem zlp{α : Type}{c : Bool}{x : Option α}{y : α}(h : (bif c then x else none) = some y) : c = true ∧ x = some y := by
 cases c with
 |true =>exact⟨rfl,vc3⟩
 |false =>cases h
theorem zll{d : Nat}{l m : List LV}{xs ys : Array Value}{B : Nat}{X : Nat → Prop}(hl : xs.size = l.length)(hm : ys.size = m.length)
    (h1:∀(i:Nat) lv v,l[i]?=some lv→xs[i]?=some v→RepV w B X E lv v) (h2:∀(i:Nat) lv v,m[i]?=some lv→ys[i]?=some v→RepV w B X E lv v) :
    ∀{fs:List Field} {c:Bool},eqFs P l m fs=some c→(Op.eqFields (d+1) xs ys fs).run P w=.ok c w
  |[],c,h=>by cases h;rfl
  |f :: fs, c, h => by
    have part_run : ∀{T : TypeId} {cs : Array Value} {k : Nat} {v : Value}, aggOf P T = some false → cs[k]? = some v → (part T cs k).run P w = .ok v w := fun {T cs k v} ha hv => by
      have hg : (isAgg T).run P w = .ok false w := by
        unfold aggOf at ha
        split at ha
        · cases ha
        · cases ha
        · rename_i u hu1 hu2 hu
          simp only[isAgg,oF,oO hu,oA]
          simp_all
        · cases ha
      simp only[part,oF,hg,oA,oV,if_false,hv,oL]
    have get : ∀{l : List LV} {xs : Array Value} {k : Nat} {lv : LV}, xs.size = l.length → l[k]? = some lv → ∃v, xs[k]? = some v := fun {l xs k lv} hs hk => by
      have:=(oG.1 hk).1
      simp_all
    unfold eqFs at h
    split at h
    · rename_i k a k' b c' ha hu hx hy hc
      obtain⟨hk,e⟩:=zs0 h
      obtain⟨hk1,hk2⟩:=Bool.and_eq_true_iff.1 hk
      have ek:=om hk1
      subst ek;subst e
      have hn : f.name ≠ "_" := by grind
      obtain⟨v1,g1⟩:=get hl hx
      obtain⟨v2,g2⟩:=get hm hy
      have e1:=(h1 _ _ _ hx g1).int_inv
      have e2:=(h2 _ _ _ hy g2).int_inv
      subst e1;subst e2
      have ih:=zll (d:=d) hl hm h1 h2 hc
      have hq : (Op.equalIn (d + 1) f.type (.int k a) (.int k b)).run P w = .ok (decide (a = b)) w := by
        rw[run_equalIn_int w d f.type k _ a b hu];congr 1
      simp only[Op.eqFields,hn,ne_eq,not_false_eq_true,if_true,oF,part_run ha g1,part_run ha g2,oA,hq,Sem.run_ite]
      cases hd:decide (a=b)
      · simp
      · grind
    · rename_i a b c' ha hu hx hy hc
      obtain⟨hk,e⟩:=zs0 h
      subst e
      have hn : f.name ≠ "_" := by grind
      obtain⟨v1,g1⟩:=get hl hx
      obtain⟨v2,g2⟩:=get hm hy
      have e1:=(h1 _ _ _ hx g1).bool_inv
      have e2:=(h2 _ _ _ hy g2).bool_inv
      subst e1;subst e2
      have ih:=zll (d:=d) hl hm h1 h2 hc
      simp only[Op.eqFields,hn,ne_eq,not_false_eq_true,if_true,oF,part_run ha g1,part_run ha g2,oA,run_equalIn_bool' w d f.type a b hu,Sem.run_ite]
      cases hd:(a==b)
      · simp
      · grind
    · rename_i a b c' ha hu hx hy hc
      obtain⟨hk,e⟩:=zs0 h
      subst e
      have hn : f.name ≠ "_" := by grind
      obtain⟨v1,g1⟩:=get hl hx
      obtain⟨v2,g2⟩:=get hm hy
      have e1:=(h1 _ _ _ hx g1).str_inv
      have e2:=(h2 _ _ _ hy g2).str_inv
      subst e1;subst e2
      have ih:=zll (d:=d) hl hm h1 h2 hc
      have hq : (Op.equalIn (d + 1) f.type (.string ⟨a.toArray⟩) (.string ⟨b.toArray⟩)).run P w = .ok (a == b) w := by
        rw[run_equalIn_string w d f.type _ _ hu];simp only[ztu]
      simp only[Op.eqFields,hn,ne_eq,not_false_eq_true,if_true,oF,part_run ha g1,part_run ha g2,oA,hq,Sem.run_ite]
      cases hd:(a==b)
      · simp
      · grind
    · cases h
theorem z3s{op : BinOp}{T : Nat}{x y lv : LV}(h : binB P op T x y = some lv){vx vy : Value}{B : Nat}{X : Nat → Prop}(hx : RepV w B X E x vx)(hy : RepV w B X E y vy) : (∃v, (binOp op T vx vy).run P w = .ok v w ∧ RepC w B X lv v) := by
 unfold binB at h;split at h
 ·rename_i a' b' hu;have ex := hx.bool_inv;have ey := hy.bool_inv;subst ex; subst ey;cases h;exact okB (zzy hu).1
 ·rename_i a' b' hu;have ex := hx.bool_inv;have ey := hy.bool_inv;subst ex; subst ey;cases h;exact okB (zzy hu).2
 ·rename_i l m fs hu;obtain ⟨hk, e⟩ := zlp h;simp only [ou] at e;obtain ⟨c, hc, e⟩ := e;subst e;obtain ⟨hk1, hk2⟩ := Bool.and_eq_true_iff.1 hk;obtain ⟨xs, rfl, hl, h1⟩ := hx.agg_inv;obtain ⟨ys, rfl, hm, h2⟩ := hy.agg_inv;have hf : P.underlying T = some (.struct (P.fieldsOf T)) := by unfold Program.fieldsOf; rw [hu]
  have hf2:P.fieldsOf T=fs:=vdi
  refine okB ?_;rw[run_eql_struct,run_equalIn_struct w 9999 T xs ys hf (by simpa using hk1),hf2,zll (d:=9998) hl hm h1 h2 hc];rfl
 ·rename_i l m fs hu;obtain ⟨hk, e⟩ := zlp h;simp only [ou] at e;obtain ⟨c, hc, e⟩ := e;subst e;obtain ⟨hk1, hk2⟩ := Bool.and_eq_true_iff.1 hk;obtain ⟨xs, rfl, hl, h1⟩ := hx.agg_inv;obtain ⟨ys, rfl, hm, h2⟩ := hy.agg_inv;have hf : P.underlying T = some (.struct (P.fieldsOf T)) := by unfold Program.fieldsOf; rw [hu]
  have hf2:P.fieldsOf T=fs:=vdi
  refine okB ?_;rw[run_neq_struct,run_equalIn_struct w 9999 T xs ys hf (by simpa using hk1),hf2,zll (d:=9998) hl hm h1 h2 hc];rfl
 cases h

theorem z01{y : Operand}(h : z02 y = true) : y = .const .nilIface := by
 unfold z02 at h;split at h
 ·rfl
 cases h
theorem ztc{T : Nat}{ms : Array (String × TypeId)}(hu : P.underlying T = some (.interface ms)) : (binOp .eql T .nilIface .nilIface).run P w = .ok (.bool true) w ∧ (binOp .neq T .nilIface .nilIface).run P w = .ok (.bool false) w := by
 have h:∀d:Nat,(Op.equalIn (d+1) T .nilIface .nilIface).run P w=.ok true w:=fun d=>by simp[Op.equalIn,oO hu]
 constructor
 ·simp only [binOp];simp [Op.equal, Op.maxDepth, h 9999]
 simp only[binOp];simp[Op.equal,Op.maxDepth,h 9999]
theorem znx{T t : Nat}{u : Value}{ms : Array (String × TypeId)}(hu : P.underlying T = some (.interface ms)) : (binOp .eql T (.iface t u) .nilIface).run P w = .ok (.bool false) w ∧ (binOp .neq T (.iface t u) .nilIface).run P w = .ok (.bool true) w := by
 have h:∀d:Nat,(Op.equalIn (d+1) T (.iface t u) .nilIface).run P w=.ok false w:=fun d=>by simp[Op.equalIn,oO hu]
 constructor
 ·simp only [binOp];simp [Op.equal, Op.maxDepth, h 9999]
 simp only[binOp];simp[Op.equal,Op.maxDepth,h 9999]
theorem z3o{op : BinOp}{T : Nat}{x lv : LV}{y : Bool}(h : binN P op T x y = some lv){vx : Value}{B : Nat}{X : Nat → Prop}(hx : RepV w B X E x vx) : (∃v, (binOp op T vx .nilIface).run P w = .ok v w ∧ RepC w B X lv v) ∧ y = true ∧ ∀(ox : Operand), (eqGuard op T ox (.const .nilIface) vx .nilIface).run P w = .ok () w := by
 unfold binN at h;split at h
 ·rename_i b ms hu;cases h;cases hx.er_inv with
  |er _ v h0 h1 =>
   cases b with
   |false =>obtain rfl:=h0 rfl;refine⟨okB ?_,rfl,fun ox=>by simp[eqGuard]⟩;exact(ztc hu).1
   |true =>obtain⟨t,u,rfl⟩:=h1 rfl;refine⟨okB ?_,rfl,fun ox=>by simp[eqGuard]⟩;exact(znx hu).1
 ·rename_i b ms hu;cases h;cases hx.er_inv with
  |er _ v h0 h1 =>
   cases b with
   |false =>obtain rfl:=h0 rfl;refine⟨okB ?_,rfl,fun ox=>by simp[eqGuard]⟩;exact(ztc hu).2
   |true =>obtain⟨t,u,rfl⟩:=h1 rfl;refine⟨okB ?_,rfl,fun ox=>by simp[eqGuard]⟩;exact(znx hu).2
 cases h
theorem zvz{op:BinOp}{T:Nat}{x y:Operand}{k k':IntKind}{a b:Int}:(eqGuard op T x y (.int k a) (.int k' b)).run P w=.ok () w:=vct
theorem zvy{op:BinOp}{T:Nat}{x y:Operand}{a b:ByteArray}:(eqGuard op T x y (.string a) (.string b)).run P w=.ok () w:=vct
theorem zmu{op:BinOp}{T:Nat}{x y:Operand}{a b:Bool}:(eqGuard op T x y (.bool a) (.bool b)).run P w=.ok () w:=vct
theorem zza{op : BinOp}{wr : Bool}{x y lv : LV}{p : List Prop}(h : binL op wr x y = some (lv, p)){T : TypeId}{ox oy : Operand}{vx vy : Value}{B : Nat}{X : Nat → Prop}(hx : RepV w B X E x vx)(hy : RepV w B X E y vy) : (eqGuard op T ox oy vx vy).run P w = .ok () w := by
 unfold binL at h;split at h
 ·have ex := hx.int_inv;have ey := hy.int_inv;subst ex; subst ey;exact zvz
 ·have ex := hx.str_inv;have ey := hy.str_inv;subst ex; subst ey;exact zvy
 cases h
theorem zzb{op : BinOp}{T : Nat}{x y lv : LV}(h : binB P op T x y = some lv){ox oy : Operand}{vx vy : Value}{B : Nat}{X : Nat → Prop}(hx : RepV w B X E x vx)(hy : RepV w B X E y vy) : (eqGuard op T ox oy vx vy).run P w = .ok () w := by
 unfold binB at h;split at h
 ·have ex := hx.bool_inv;have ey := hy.bool_inv;subst ex; subst ey;exact zmu
 ·have ex := hx.bool_inv;have ey := hy.bool_inv;subst ex; subst ey;exact zmu
 ·obtain ⟨hk, e⟩ := zlp h;obtain ⟨hk1, hk2⟩ := Bool.and_eq_true_iff.1 hk;obtain ⟨xs, rfl, _⟩ := hx.agg_inv;obtain ⟨ys, rfl, _⟩ := hy.agg_inv;exact run_eqGuard_agg w _ _ _ _ _ _ (by simpa using hk2)
 ·obtain ⟨hk, e⟩ := zlp h;obtain ⟨hk1, hk2⟩ := Bool.and_eq_true_iff.1 hk;obtain ⟨xs, rfl, _⟩ := hx.agg_inv;obtain ⟨ys, rfl, _⟩ := hy.agg_inv;exact run_eqGuard_agg w _ _ _ _ _ _ (by simpa using hk2)
 cases h

theorem znk{mx : Bool}{k : IntKind} : ∀{a : Int} {l : List LV} {lv : LV}, maxL mx k a l = some lv → ∀{vs : List Value} {B : Nat} {X : Nat → Prop},
    vs.length=l.length→(∀(i:Nat) x v,l[i]?=some x→vs[i]?=some v→RepV w B X E x v)→∃n,lv=.int k n∧(vs.foldlM (if mx then Builtin.max2 else Builtin.min2) (.int k a)).run P w=.ok (.int k n) w
  |a, [], lv, h, vs, B, X, hl, _ => by
    cases h
    simp_all
  |a, x :: r, lv, h, vs, B, X, hl, hr => by
    cases vs with
    |nil=>simp at hl
    |cons v vs =>
      unfold maxL at h
      split at h
      · grind
      · rename_i k' b r' h1
        cases h1
        have e:=(hr 0 (.int k' b) v vdj vdj).int_inv
        subst e
        cases mx with
        |true =>
          obtain⟨n,h2,h3⟩:=znk h (vs:=vs) (B:=B) (X:=X) vcX (fun i x v h4 h5=>hr (i+1) x v (by simpa using h4) (by simpa using h5))
          simp only[if_true,List.foldlM_cons,Builtin.max2] at h3 ⊢
          grind
        |false =>
          obtain⟨n,h2,h3⟩:=znk h (vs:=vs) (B:=B) (X:=X) vcX (fun i x v h4 h5=>hr (i+1) x v (by simpa using h4) (by simpa using h5))
          simp only[oV,if_false,List.foldlM_cons,Builtin.min2] at h3 ⊢
          grind
      · cases h

theorem zpi{B : Nat}{X : Nat → Prop} : ∀{l : List LV} {bs : List Bool}, zsz l = some bs → l.length = bs.length ∧ ∀(i : Nat) x, l[i]? = some x → ∃b, bs[i]? = some b ∧ x = .bool b
  |[],bs,h=>by cases h;exact⟨rfl,fun i x h=>vdb⟩
  |x :: r, bs, h => by
    unfold zsz at h
    split at h
    · grind
    · rename_i b r' h1
      cases h1
      simp only[ou] at h
      obtain⟨bs',h2,rfl⟩:=h
      obtain⟨h3,h4⟩:=zpi (B:=B) (X:=X) h2
      grind
    · cases h

theorem zqk : ∀{l : List LV} {ws : List (List UInt8)}, zwz l = some ws → ∀(i : Nat), i < l.length → l.getD i .nilS = .str (ws.getD i [])
  |[],ws,h=>by intro i hi;simp at hi
  |x :: r, ws, h => by
    unfold zwz at h
    split at h
    · grind
    · rename_i b r' h1
      cases h1
      simp only[ou] at h
      obtain⟨ws',h2,rfl⟩:=h
      intro i hi
      cases i with
      |zero=>rfl
      |succ i=>simpa using zqk h2 i (by simpa using hi)
    · cases h

theorem z27(hs : Sat N w0 X0 σ E a w){T n : Nat}{x : LV}(h : lenL P T σ.blk x = some n){v : Value}(hx : RepV w w0.heap.size (Own σ E X0) E x v)(ty : TypeId) : (Builtin.len_ #[T] ty #[v]).run P w = .ok (.int .i64 (n : Int)) w := by
 unfold lenL at h;split at h
 ·rename_i s hu;cases h;have e := hx.str_inv;subst e;have hz : (⟨s.toArray⟩ : ByteArray).size = s.length := by show s.toArray.size = s.length; simp
  simp[Builtin.len_,oO hu,goInt,hz]
 ·rename_i e _ _ _ _ hu;cases h;have hh := hx.ro_inv;cases hh with
  |ro _ _ _ _ A ad cap cv =>simp[Builtin.len_,oO hu,goInt]
 ·rename_i e hu;cases h;have e := hx.nilS_inv;subst e;simp [Builtin.len_, oO hu, goInt]
 ·rename_i e id hu;have e := hx.own_inv;subst e;split at h
  ·rename_i sz m row hb;cases h;obtain ⟨hn, hk⟩ := hs.blks id _ hb;rcases hk with ⟨_, k2, k3⟩ | ⟨b', cap, vs, T', k1, k2, _⟩
   ·rw [k2]; subst k3; simp [Builtin.len_, oO hu, goInt]
   rw[k2];simp[Builtin.len_,oO hu,goInt]
  ·rename_i cl sz m rows hb;cases h;obtain ⟨ek, _, hn, hk⟩ := hs.blks id _ hb;rcases hk with ⟨_, k2, k3⟩ | ⟨b', cap, vs, T', k1, k2, _⟩
   ·rw [k2]; subst k3; simp [Builtin.len_, oO hu, goInt]
   rw[k2];simp[Builtin.len_,oO hu,goInt]
  cases h
 cases h

theorem zqz(hs : Sat N w0 X0 σ E a w){args : Array Operand}{k : IntKind}{n : Int}{r : List LV}{p : List Prop}(h : evs σ.slot args.toList = some (.int k n :: r, p))(ha : All p) : ∃vs : List Value, (args.map a.eval).toList = .int k n :: vs ∧ vs.length = r.length ∧ ∀(i : Nat) x v, r[i]? = some x → vs[i]? = some v → RepV w w0.heap.size (Own σ E X0) E x v := by
 obtain⟨h1,h2⟩:=zhq hs h ha;obtain⟨l⟩:=args;cases l with
 |nil =>simp at h1
 |cons o l =>have e:a.eval o=.int k n:=(by obtain⟨x,hx,hr,_⟩:=h2 0 (.int k n) vdj;simp at hx;subst hx;exact hr.int_inv);refine⟨l.map a.eval,by simp[e],vcY,fun i x v hx hv=>?_⟩;obtain⟨y,hy,hr,_⟩:=h2 (i+1) x (by simpa using hx);grind

set_option maxHeartbeats 1000000 in
theorem zzg(hs : Sat N w0 X0 σ E a w){o : Oper}{h : Hint}{lv : LV}{p : List Prop}(hv : vop P o σ.slot σ.blk h = some (lv, p))(ha : All p) : VOk P w0 X0 σ E a w o lv := by
 have noI:∀(k:IntKind) (n:Int) (id:Nat),Ment (.int k n) id→σ.used id=true:=fun _ _ _ hm=>by cases hm
 have noB:∀(b:Bool) (id:Nat),Ment (.bool b) id→σ.used id=true:=fun _ _ hm=>by cases hm
 unfold vop at hv;split at hv
 ·rename_i x ho;obtain ⟨h1, h2⟩ := zao hs hv ha;exact ⟨_, by simp only [execOp, ho, oL], h1, h2⟩
 ·rename_i x ho;obtain ⟨h1, h2⟩ := zao hs hv ha;exact ⟨_, by simp only [execOp, ho, oL], h1, h2⟩
 ·rename_i c x y ho;split at hv
  ·rename_i bx p1 by' q bz r h1 h2 h3;cases hv;exact z2k hs ho h1 h2 h3 ha
  cases hv
 ·rename_i T x ho;split at hv
  ·rename_i id off q h1;split at hv
   ·rename_i cells hb;simp only [ou] at hv;obtain ⟨v, hl, e⟩ := hv;cases e;exact zs5 hs ho (zao hs h1 ha).1 hb hl
   cases hv
  ·rename_i row off q h1;simp only [ou] at hv;obtain ⟨v, hl, e⟩ := hv;cases e;exact zuu hs ho (zao hs h1 ha).1 hl
  ·rename_i id sz i off q h1;split at hv
   ·rename_i sz' n row hb;cases hz : Nat.beq sz sz' with
    |false =>rw[hz] at hv;cases hv
    |true =>rw[hz] at hv;simp only[oE,ou] at hv;obtain⟨v,hl,e⟩:=hv;cases e;have:=oo hz;subst this;exact zuv hs ho (zao hs h1 ha).1 hb hl
   cases hv
  cases hv
 ·rename_i T x f ho;split at hv
  ·rename_i id off q k h1 h2;cases hv;obtain ⟨g1, g2⟩ := zao hs h1 ha;exact (zhv hs ho h2 g1 g2).1 id off rfl
  ·rename_i row off q k h1 h2;cases hv;obtain ⟨g1, g2⟩ := zao hs h1 ha;exact (zhv hs ho h2 g1 g2).2.1 row off rfl
  ·rename_i id sz i off q k h1 h2;cases hv;obtain ⟨g1, g2⟩ := zao hs h1 ha;exact (zhv hs ho h2 g1 g2).2.2 id sz i off rfl
  cases hv
 ·rename_i T x i ho;split at hv
  ·rename_i e fr sz n row q k j r hu h1 h2;cases hz : szOf P e with
   |none =>rw[hz] at hv;cases hv
   |some s =>
    rw[hz] at hv;cases hzz:Nat.beq s sz with
    |false =>simp[hzz] at hv
    |true =>simp only[hzz,oE,oq,o8] at hv;obtain⟨rfl,rfl⟩:=hv;have:=oo hzz;subst this;obtain⟨hab,hc⟩:=All.append.1 ha;obtain⟨ha1,ha2⟩:=All.append.1 hab;exact zs6 hs ho hu hz (zao hs h1 ha1).1 (zao hs h2 ha2).1 hc.1.1 hc.1.2
  ·rename_i e id q k j r hu h1 h2;split at hv
   ·rename_i sz n row hb;cases hz : szOf P e with
    |none =>rw[hz] at hv;cases hv
    |some s =>
     rw[hz] at hv;cases hzz:Nat.beq s sz with
     |false =>simp[hzz] at hv
     |true =>simp only[hzz,oE,oq,o8] at hv;obtain⟨rfl,rfl⟩:=hv;have:=oo hzz;subst this;obtain⟨hab,hc⟩:=All.append.1 ha;obtain⟨ha1,ha2⟩:=All.append.1 hab;exact zrl hs ho hu hz (zao hs h1 ha1).1 hb (zao hs h2 ha2).1 hc.1.1 hc.1.2
   ·rename_i wd cl sz n rows hb;cases hz : szOf P e with
    |none =>rw[hz] at hv;cases hv
    |some s =>
     rw[hz] at hv;cases hzz:Nat.beq s wd with
     |false =>simp[hzz] at hv
     |true =>simp only[hzz,oE,oq,o8] at hv;obtain⟨rfl,rfl⟩:=hv;have:=oo hzz;subst this;obtain⟨hab,hc⟩:=All.append.1 ha;obtain⟨ha1,ha2⟩:=All.append.1 hab;exact zpm hs ho hu hz (zao hs h1 ha1).1 hb (zao hs h2 ha2).1 hc.1.1 hc.1.2
   cases hv
  ·rename_i n e row off q k j r hu h1 h2;split at hv
   ·rename_i ws hws;cases hz : szOf P e with
    |none =>rw[hz] at hv;cases hv
    |some s =>
     rw[hz] at hv;cases hzz:(Nat.beq s 1&&Nat.beq row.length n&&Nat.beq off 0) with
     |false =>simp[hzz] at hv
     |true =>simp only[hzz,oE,oq,o8] at hv;obtain⟨rfl,rfl⟩:=hv;simp only[oc] at hzz;obtain rfl:=oo hzz.1.1;have e1:=oo hzz.1.2;obtain rfl:=oo hzz.2;obtain⟨hab,hc⟩:=All.append.1 ha;obtain⟨ha1,ha2⟩:=All.append.1 hab;have hg:=zqk hws j.toNat (show j.toNat<row.length by have:=hc.1;omega);rw[←hg];exact zrm hs ho hu hz e1 (zao hs h1 ha1).1 (zao hs h2 ha2).1 hc.1.1 hc.1.2
   cases hv
  ·rename_i n e id sz i0 off q k j r hu h1 h2;split at hv
   ·rename_i sz' m row hb;cases hz : szOf P e with
    |none =>rw[hz] at hv;cases hv
    |some s =>
     rw[hz] at hv;cases hzz:(Nat.beq s sz&&Nat.beq sz sz'&&Nat.beq i0 0&&Nat.beq off 0) with
     |false =>simp[hzz] at hv
     |true =>simp only[hzz,oE,oq,o8] at hv;obtain⟨rfl,rfl⟩:=hv;simp only[oc] at hzz;obtain rfl:=oo hzz.1.1.1;obtain rfl:=oo hzz.1.1.2;obtain rfl:=oo hzz.1.2;obtain rfl:=oo hzz.2;obtain⟨hab,hc⟩:=All.append.1 ha;obtain⟨ha1,ha2⟩:=All.append.1 hab;exact zpn hs ho hu hz (zao hs h1 ha1).1 hb (zao hs h2 ha2).1 hc.1.1 hc.1.2 hc.2.1
   cases hv
  cases hv
 ·rename_i T x i ho;split at hv
  ·rename_i s q k j r hu h1 h2;cases hv;obtain ⟨hab, hc⟩ := All.append.1 ha;obtain ⟨ha1, ha2⟩ := All.append.1 hab;have e1 := (zao hs h1 ha1).1.str_inv;have e2 := (zao hs h2 ha2).1.int_inv;refine ⟨.int .u8 ((s.getD j.toNat 0).toNat : Int), ?_, .c _ _ (.int _ _), noI _ _⟩;have hj : j.toNat < s.length := (by have := hc.1; omega);have hg : (if 0 ≤ j then (⟨s.toArray⟩ : ByteArray)[j.toNat]? else none) = some s[j.toNat] := (by rw [if_pos hc.1.1];have hj' : j.toNat < (⟨s.toArray⟩ : ByteArray).size := (by show j.toNat < s.toArray.size; simpa using hj);rw [getElem?_pos (⟨s.toArray⟩ : ByteArray) j.toNat hj'];rfl);simp only [execOp, ho, oF, e1, e2, Instr.index, asIntOf, oL, oA, oO hu, hg];simp [List.getD, hj]
  ·rename_i n e l q k j r hu h1 h2;split at hv
   ·rename_i bs hb hg hz;cases hn : Nat.beq n bs.length with
    |false =>rw[hn] at hv;cases hv
    |true =>rw[hn] at hv;simp only[oE,oq,o8] at hv;obtain⟨rfl,rfl⟩:=hv;have hn:=oo hn;obtain⟨hab,hc⟩:=All.append.1 ha;obtain⟨ha1,ha2⟩:=All.append.1 hab;obtain⟨vs,e1,hsz,hvs⟩:=(zao hs h1 ha1).1.agg_inv;have e2:=(zao hs h2 ha2).1.int_inv;obtain⟨hl,hbs⟩:=zpi (B:=0) (X:=fun _=>False) hb;have hj:j.toNat<l.length:=(by have:=hc.1;omega);have hj2:j.toNat<vs.size:=vdh;have hj3:j.toNat<bs.length:=vdh;obtain⟨b,hb1,hb2⟩:=hbs j.toNat l[j.toNat] (ol hj);have hv:=hvs j.toNat l[j.toNat] vs[j.toNat] (ol hj) (oN hj2);rw[hb2] at hv;have hv:=hv.bool_inv;refine⟨.bool (bs.getD j.toNat false),?_,.c _ _ (.bool _),noB _⟩;have hd:bs.getD j.toNat false=b:=(by simp[List.getD,hb1]);rw[hd];simp only[execOp,ho,oF,e1,e2,Instr.index,asIntOf,oL,oA,oO hu,if_pos hc.1,zcj hz,part,zev hg,Nat.mul_one,oV,if_false,oN hj2,hv]
   cases hv
  cases hv
 ·rename_i op T x y yT ho;split at hv
  ·rename_i x' q y' r h1 h2;split at hv
   ·rename_i v t hb;cases hv;obtain ⟨hab, hc⟩ := All.append.1 ha;obtain ⟨ha1, ha2⟩ := All.append.1 hab;have r1 := (zao hs h1 ha1).1;have r2 := (zao hs h2 ha2).1;obtain ⟨u, hu, hr⟩ := z3q (P := P) hb hc (T := T) r1 r2;exact ⟨u, by simp only [execOp, ho, oF, zza hb r1 r2, oA, hu, oL], .c _ _ hr, fun id hm => absurd hm (hr.noMent id)⟩
   split at hv
   ·rename_i v hb;cases hv;obtain ⟨ha1, ha2⟩ := All.append.1 ha;have r1 := (zao hs h1 ha1).1;have r2 := (zao hs h2 ha2).1;obtain ⟨u, hu, hr⟩ := z3s (P := P) hb r1 r2;exact ⟨u, by simp only [execOp, ho, oF, zzb hb r1 r2, oA, hu, oL], .c _ _ hr, fun id hm => absurd hm (hr.noMent id)⟩
   simp only[ou] at hv;obtain⟨v,hb,e⟩:=hv;cases e;obtain⟨ha1,ha2⟩:=All.append.1 ha;have r1:=(zao hs h1 ha1).1;obtain⟨⟨u,hu,hr⟩,hy,hg⟩:=z3o (P:=P) hb r1;have ey:=z01 hy;subst ey;have e2:a.eval (.const .nilIface)=.nilIface:=rfl;exact⟨u,by simp only[execOp,ho,oF,e2,hg,oA,hu,oL],.c _ _ hr,fun id hm=>absurd hm (hr.noMent id)⟩
  cases hv
 ·rename_i T x ho;split at hv
  ·rename_i b q h1;cases hv;have e := (zao hs h1 ha).1.bool_inv;exact ⟨.bool (!b), by simp only [execOp, ho, oF, e, Op.unary, oL, oA], .c _ _ (.bool _), noB _⟩
  cases hv
 ·rename_i T x ho;split at hv
  ·rename_i k n q h1;cases hv;obtain ⟨ha1, ha2⟩ := All.append.1 ha;have e := (zao hs h1 ha1).1.int_inv;refine ⟨.int k (-n), ?_, .c _ _ (.int _ _), noI _ _⟩;have hw : k.wrap (0 - n) = -n := (by rw [Int.zero_sub]; exact zc3 ha2.1);simp only [execOp, ho, oF, e, Op.unary, Op.intArith, oL, oA, hw]
  cases hv
 ·rename_i x i ho;split at hv
  ·rename_i l q h1;simp only [ou] at hv;obtain ⟨v, hl, e⟩ := hv;cases e;obtain ⟨g1, g2⟩ := zao hs h1 ha;obtain ⟨vs, e1, hsz, hvs⟩ := g1.tup_inv;have hi : i < vs.size := by
    rw[hsz];rcases o0 i l.length with h' | h'
    ·exact h'
    rw[o7 h'] at hl;cases hl
   refine⟨vs[i],?_,hvs i lv vs[i] hl (oN hi),fun id hm=>g2 id (.tup _ lv id (oY hl) hm)⟩;simp only[execOp,ho,oF,e1,Instr.extract,oN hi,oL,oA]
  cases hv
 ·rename_i S T x ho;split at hv
  ·rename_i d k k' n q hS hT h1;have hrun : ∀ q' : List Prop, All q' → q' = q → (execOp a.eval o).run P w = .ok (.value (.int k (k.wrap n))) w := fun q' hq e => (by subst e;have e := (zao hs h1 hq).1.int_inv;simp only [execOp, ho, oF, e, convert, oO hS, oO hT, oA];cases d <;> rfl);cases hw : z00 h with
   |true =>rw[hw] at hv;simp only[oE,oq,o8] at hv;obtain⟨rfl,rfl⟩:=hv;exact⟨_,hrun _ ha rfl,.c _ _ (.int _ _),noI _ _⟩
   |false =>rw[hw] at hv;simp only[oD,oq,o8] at hv;obtain⟨rfl,rfl⟩:=hv;obtain⟨ha1,ha2⟩:=All.append.1 ha;have:=hrun _ ha1 rfl;rw[zc3 ha2.1] at this;exact⟨_,this,.c _ _ (.int _ _),noI _ _⟩
  cases hv
 ·rename_i x ho;split at hv
  ·rename_i id off q h1;cases hv;obtain ⟨g1, g2⟩ := zao hs h1 ha;obtain ⟨b, k1, k2⟩ := g1.vp_inv;exact ⟨_, by simp only [execOp, ho, k2, oL], .vp id off b k1, g2⟩
  ·rename_i row off q h1;cases hv;obtain ⟨g1, g2⟩ := zao hs h1 ha;have hh := g1.ep_inv;generalize he : a.eval x = v at hh;cases hh with
   |ep _ _ ad cv hlt hX hc hr =>exact⟨_,by simp only[execOp,ho,he,oL],.c _ _ (.ep row off ad cv hlt hX hc hr),g2⟩
  ·rename_i id sz i off q h1;cases hv;obtain ⟨g1, g2⟩ := zao hs h1 ha;obtain ⟨b, k1, k2, k3⟩ := g1.ap_inv;exact ⟨_, by simp only [execOp, ho, k3, oL], .ap id sz i off b k1 k2, g2⟩
  cases hv
 ·rename_i args argTypes ho;split at hv
  ·rename_i x T hx hT;split at hv
   ·rename_i x' q h1;simp only [ou] at hv;obtain ⟨n, hl, e⟩ := hv;cases e;have r1 := (zao hs h1 ha).1;have e1 : args = #[x] := (by cases args; simp_all);have e2 : argTypes = #[T] := (by cases argTypes; simp_all);subst e1; subst e2;refine ⟨.int .i64 (n : Int), ?_, .c _ _ (.int _ _), noI _ _⟩;simp only [execOp, ho, oF, resolve, oL, oA, invoke, builtin, List.map_toArray, List.map_cons, List.map_nil, z27 hs hl r1]
   cases hv
  cases hv
 ·rename_i args argTypes ho;split at hv
  ·rename_i k n r q h1;simp only [ou] at hv;obtain ⟨v, hl, e⟩ := hv;cases e;obtain ⟨vs, e1, e2, e3⟩ := zqz hs h1 ha;obtain ⟨m, rfl, hm⟩ := znk (P := P) (w := w) hl e2 e3;refine ⟨.int k m, ?_, .c _ _ (.int _ _), noI _ _⟩;simp only [execOp, ho, oF, resolve, oL, oA, invoke, builtin, Builtin.max_, e1];simp only [if_true] at hm;rw [hm]; rfl
  cases hv
 ·rename_i args argTypes ho;split at hv
  ·rename_i k n r q h1;simp only [ou] at hv;obtain ⟨v, hl, e⟩ := hv;cases e;obtain ⟨vs, e1, e2, e3⟩ := zqz hs h1 ha;obtain ⟨m, rfl, hm⟩ := znk (P := P) (w := w) hl e2 e3;refine ⟨.int k m, ?_, .c _ _ (.int _ _), noI _ _⟩;simp only [execOp, ho, oF, resolve, oL, oA, invoke, builtin, Builtin.min_, e1];simp only [oV, if_false] at hm;rw [hm]; rfl
  cases hv
 cases hv
end vop
end Go.Lite
