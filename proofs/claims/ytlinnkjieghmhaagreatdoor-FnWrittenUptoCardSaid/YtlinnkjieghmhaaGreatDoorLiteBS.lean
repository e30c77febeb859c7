/- The operations of LiteB are sound. Conditions: none; over any program. -/
import Derived.Test.YtlinnkjieghmhaaGreatDoorLiteB
set_option linter.unusedVariables false
namespace Go.Lite
open Go Go.RowKit

section inv
variable {w:World} {B:Nat} {X:Nat→Prop} {E:Env} {v:Value}
theorem RepV.int_inv {k:IntKind} {n:Int} (h:RepV w B X E (.int k n) v):v=.int k n:=by
 cases h with | c _ _ h=>cases h;rfl
theorem RepV.bool_inv {b:Bool} (h:RepV w B X E (.bool b) v):v=.bool b:=by
 cases h with | c _ _ h=>cases h;rfl
theorem RepV.str_inv {s:List UInt8} (h:RepV w B X E (.str s) v):v=.string ⟨s.toArray⟩:=by
 cases h with | c _ _ h=>cases h;rfl
theorem RepV.fn_inv {f:Nat} (h:RepV w B X E (.fn f) v):v=.func (.func f) #[] #[]:=by
 cases h with | c _ _ h=>cases h;rfl
theorem RepV.nilS_inv (h:RepV w B X E .nilS v):v=.slice none 0 0:=by
 cases h with | c _ _ h=>cases h;rfl
theorem RepV.nilP_inv (h:RepV w B X E .nilP v):v=.pointer none:=by
 cases h with | c _ _ h=>cases h;rfl
theorem RepV.rm_inv {kd:KD} {m:MV} (h:RepV w B X E (.rm kd m) v):RepC w B X (.rm kd m) v:=by
 cases h with | c _ _ h=>exact h
theorem RepV.nilM_inv (h:RepV w B X E .nilM v):v=.map none:=by
 cases h with | c _ _ h=>cases h;rfl
theorem RepV.vp_inv {id off:Nat} (h:RepV w B X E (.vp id off) v):∃ b,(E id).b=some b∧v=.pointer (some ⟨b,off,none⟩):=by
 cases h with
 | c _ _ h=>cases h
 | vp _ _ b hb=>exact ⟨b,hb,rfl⟩
theorem RepV.mp_inv {id:Nat} (h:RepV w B X E (.mp id) v):∃ b,(E id).b=some b∧v=.map (some b):=by
 cases h with
 | c _ _ h=>cases h
 | mp _ b hb=>exact ⟨b,hb,rfl⟩
theorem RepV.own_inv {id:Nat} (h:RepV w B X E (.own id) v):v=(E id).val:=by
 cases h with
 | c _ _ h=>cases h
 | own=>rfl
theorem RepV.ap_inv {id sz i off:Nat} (h:RepV w B X E (.ap id sz i off) v):∃ b,(E id).b=some b∧i<(E id).n∧v=.pointer (some ⟨b,(E id).off+i * sz+off,none⟩):=by
 cases h with
 | c _ _ h=>cases h
 | ap _ _ _ _ b hb hi=>exact ⟨b,hb,hi,rfl⟩
theorem RepV.ro_inv {fr:Bool} {sz n:Nat} {row:Nat→List LV} (h:RepV w B X E (.ro fr sz n row) v):RepC w B X (.ro fr sz n row) v:=by
 cases h with | c _ _ h=>exact h
theorem RepV.ep_inv {row:List LV} {off:Nat} (h:RepV w B X E (.ep row off) v):RepC w B X (.ep row off) v:=by
 cases h with | c _ _ h=>exact h
theorem RepV.tup_inv {l:List LV} (h:RepV w B X E (.tup l) v):∃ vs:Array Value,v=.tuple vs∧vs.size=l.length∧∀ (i:Nat) lv u,l[i]?=some lv→vs[i]?=some u→RepV w B X E lv u:=by
 cases h with
 | c _ _ h=>cases h with | tup _ vs hl h=>exact ⟨vs,rfl,hl,fun i lv u h1 h2=>.c _ _ (h i lv u h1 h2)⟩
 | tup _ vs hl h=>exact ⟨vs,rfl,hl,h⟩
theorem RepV.agg_inv {l:List LV} (h:RepV w B X E (.agg l) v):∃ vs:Array Value,v=.agg vs∧vs.size=l.length∧∀ (i:Nat) lv u,l[i]?=some lv→vs[i]?=some u→RepV w B X E lv u:=by
 cases h with
 | c _ _ h=>cases h with | agg _ vs hl h=>exact ⟨vs,rfl,hl,fun i lv u h1 h2=>.c _ _ (h i lv u h1 h2)⟩
 | agg _ vs hl h=>exact ⟨vs,rfl,hl,h⟩
theorem RepV.clo_inv {f:Nat} {l:List LV} (h:RepV w B X E (.clo f l) v):∃ vs:Array Value,v=.func (.func f) #[] vs∧vs.size=l.length∧∀ (i:Nat) lv u,l[i]?=some lv→vs[i]?=some u→RepV w B X E lv u:=by
 cases h with
 | c _ _ h=>cases h with | clo _ _ vs hl h=>exact ⟨vs,rfl,hl,fun i lv u h1 h2=>.c _ _ (h i lv u h1 h2)⟩
 | clo _ _ vs hl h=>exact ⟨vs,rfl,hl,h⟩
theorem RepV.k_inv {b o:Nat} (h:RepV w B X E (.k b o) v):v=.pointer (some ⟨b,o,none⟩):=by
 cases h with | c _ _ h=>cases h;rfl
theorem RepV.er_inv {b:Bool} (h:RepV w B X E (.er b) v):RepC w B X (.er b) v:=by
 cases h with | c _ _ h=>exact h
theorem RepV.fv_inv (h:RepV w B X E .fv v):RepC w B X .fv v:=by
 cases h with | c _ _ h=>exact h
theorem RepV.any_inv (h:RepV w B X E .any v):RepC w B X .any v:=by
 cases h with | c _ _ h=>exact h
theorem RepV.ifc_inv {t:Nat} {lv:LV} (h:RepV w B X E (.ifc t lv) v):∃ u,v=.iface t u∧RepV w B X E lv u:=by
 cases h with
 | c _ _ h=>cases h with | ifc _ _ u h=>exact ⟨u,rfl,.c _ _ h⟩
 | ifc _ _ u h=>exact ⟨u,rfl,h⟩
theorem RepV.strip {lv:LV} (h:RepV w B X E lv v) (ha:All (strip lv).2):RepV w B X E (strip lv).1 v:=by
 unfold Lite.strip at *
 split at ha
 ·cases h with
  | c _ _ h=>cases h
  | whn _ _ _ h1 _=>exact h1 ha.1
 ·exact h
end inv

theorem zxe {lv:LV} {id:Nat} (h:Ment (strip lv).1 id) (ha:All (strip lv).2):Ment lv id:=by
 unfold Lite.strip at h ha
 split at h
 ·exact .whn _ _ _ ha.1 h
 ·exact h

theorem zs6 {w:World} {B:Nat} {X:Nat→Prop} {v:Value} {lv:LV} (h:ofVal v=some lv):RepC w B X lv v:=by
 unfold ofVal at h
 split at h<;>first | (cases h;done) | skip
 ·cases h;exact .int _ _
 ·cases h;exact .bool _
 ·cases h
  rename_i s
  exact .str s.data.toList
 ·cases h;exact .nilS
 ·cases h;exact .nilM
 ·cases h;exact .nilP
 ·cases h;exact .er false _ (fun _=>rfl) (fun h=>by cases h)
 ·cases h;exact .fv0
theorem zi8 {w : World} {B : Nat} {X : Nat → Prop} : ∀ {vs : List Value} {l : List LV}, zmn vs = some l → vs.length = l.length ∧ ∀ (i : Nat) lv v, l[i]? = some lv → vs[i]? = some v → RepC w B X lv v
  | [],l,h=>by cases h;exact ⟨rfl,fun i lv v h=>by simp at h⟩
  | x :: r,l,h=>by
    simp only [zmn] at h
    split at h
    · rename_i y ys h1 h2
      cases h
      obtain ⟨h3,h4⟩:=zi8 (w:=w) (B:=B) (X:=X) h2
      refine ⟨by simp [h3],fun i lv v hl hv=>?_⟩
      cases i with
      | zero=>simp at hl hv;subst hl;subst hv;exact zs6 h1
      | succ i=>exact h4 i lv v za4 (by simpa using hv)
    · cases h
theorem zur {w:World} {B:Nat} {X:Nat→Prop} {v:Value} {lv:LV} (h:zus v=some lv):RepC w B X lv v:=by
 unfold zus at h
 split at h
 ·rename_i cs
  cases h1:zmn cs.toList with
  | none=>rw [h1] at h;cases h
  | some l =>
   rw [h1] at h
   cases h
   obtain ⟨h3,h4⟩:=zi8 (w:=w) (B:=B) (X:=X) h1
   exact .agg l cs (by simpa using h3) fun i lv v hl hv=>h4 i lv v hl (by simpa using hv)
 ·exact zs6 h

section ev
variable {N:Nat} {w0:World} {X0:Fr} {σ:FS} {E:Env} {a:Act} {w:World}
theorem Sat.own_ge (hs:Sat N w0 X0 σ E a w) {i g:Nat} (hi:σ.blk i≠none) (hib:(E i).b=some g):w0.heap.size≤g:=by
 cases hc:σ.blk i with
 | none=>exact absurd hc hi
 | some c =>
  have:=hs.blks i c hc
  cases c with
  | bld T e s=>obtain ⟨b,v,p,h1,h2,_⟩:=this;rw [hib] at h1;cases h1;exact h2.1
  | var cells=>obtain ⟨b,_,_,h1,h2,_⟩:=this;rw [hib] at h1;cases h1;exact h2
  | mp kd m=>obtain ⟨b,_,_,h1,h2,_⟩:=this;rw [hib] at h1;cases h1;exact h2
  | arr sz n row =>
   rcases this.2 with h | ⟨b,_,_,_,h1,_,h2,_⟩
   ·rw [hib] at h;cases h.1
   ·rw [hib] at h1;cases h1;exact h2
  | nest wd cl sz n rows =>
   obtain ⟨_,_,_,h⟩:=this
   rcases h with h | ⟨b,_,_,_,h1,_,h2,_⟩
   ·rw [hib] at h;cases h.1
   ·rw [hib] at h1;cases h1;exact h2
theorem Sat.own_geA (hs:Sat N w0 X0 σ E a w) {i g:Nat} (hi:OwnAt σ.blk E i g):w0.heap.size≤g:=by
 rcases hi with ⟨hi,hib⟩ | ⟨hi,hib⟩
 ·exact hs.own_ge hi hib
 ·rcases znl hi with ⟨wd,cl,sz,n,rows,hc⟩ | ⟨T,e,s,hc⟩
  ·exact ((hs.blks i _ hc).nestSub hib).2.1
  ·exact ((hs.blks i _ hc).bldSub hib).2.1
theorem zbk (hs : Sat N w0 X0 σ E a w) {x : Operand} {lv : LV} {p : List Prop} (h : ev σ.slot x = some (lv, p)) (ha : All p) :
    RepV w w0.heap.size (Own σ E X0) E lv (a.eval x)∧∀ id,Ment lv id→σ.used id=true:=by
 cases x with
 | tmp t =>
  simp only [ev,Option.map_eq_some_iff] at h
  obtain ⟨y,hy,hyy⟩:=h
  have e1:lv=(strip y).1:=by rw [hyy]
  have e2:p=(strip y).2:=by rw [hyy]
  subst e1;subst e2
  exact ⟨(hs.slots t y hy).strip ha,fun id hm=>hs.wfs t y id hy (zxe hm ha)⟩
 | const v =>
  simp only [ev,Option.map_eq_some_iff] at h
  obtain ⟨y,hy,hyy⟩:=h
  cases hyy
  have:=zur (w:=w) (B:=w0.heap.size) (X:=Own σ E X0) hy
  exact ⟨.c _ _ this,fun id hm=>absurd hm (this.noMent id)⟩
 | func f=>cases h;exact ⟨.c _ _ (.fn f),fun id hm=>by cases hm⟩
 | global g =>
  simp only [ev,Option.map_eq_some_iff] at h
  obtain ⟨r,hr,he⟩:=h
  cases he
  obtain ⟨h1,cv,h2,h3⟩:=hs.gh.row hr
  have hb:=hs.below.block g h1
  have:=RepC.ep (w:=w) (B:=w0.heap.size) (X:=Own σ E X0) r 0 ⟨g,0,none⟩ cv (by have:=hs.below.size;show g<w.heap.size;omega) (fun hx=>by
   rcases hx with hx | ⟨i,hi⟩
   ·have h9:=hs.xge g hx;exact absurd h1 (Nat.not_lt.2 h9)
   ·have h9:=hs.own_geA hi;exact absurd h1 (Nat.not_lt.2 h9)) (fun j hj=>by rw [zc1,Nat.zero_add];have:=h2 j hj;unfold World.cell? at this ⊢;simp only at this ⊢;rw [hb];exact this) (fun j lv hl=>h3 _ _ _ j lv hl)
  exact ⟨.c _ _ this,fun id hm=>by cases hm⟩
theorem zg5 (hs : Sat N w0 X0 σ E a w) : ∀ {xs : List Operand} {l : List LV} {p : List Prop}, evs σ.slot xs = some (l, p) → All p →
    xs.length=l.length∧∀ (i:Nat) lv,l[i]?=some lv→∃ x,xs[i]?=some x∧RepV w w0.heap.size (Own σ E X0) E lv (a.eval x)∧∀ id,Ment lv id→σ.used id=true
 | [],l,p,h,_=>by cases h;exact ⟨rfl,fun i lv h=>by simp at h⟩
 | x :: r,l,p,h,ha=>by
  simp only [evs] at h
  split at h
  ·rename_i y q ys q' h1 h2
   cases h
   obtain ⟨ha1,ha2⟩:=All.append.1 ha
   obtain ⟨h3,h4⟩:=zg5 hs h2 ha2
   refine ⟨by simp [h3],fun i lv hl=>?_⟩
   cases i with
   | zero=>simp at hl;subst hl;exact ⟨x,by simp,zbk hs h1 ha1⟩
   | succ i=>exact h4 i lv za4
  ·cases h
end ev

section load
variable {P:Program} {T:TypeId}
theorem zf5 {b:Bool} (h:aggOf P T=some b) (w:World):(isAgg T).run P w=.ok b w:=by
 unfold aggOf at h
 unfold isAgg
 simp only [Sem.run_bind]
 split at h
 ·rename_i fs hu;cases h;rw [run_underlying hu];rfl
 ·rename_i n e hu;cases h;rw [run_underlying hu];rfl
 ·rename_i d h1 h2 hu
  cases h
  rw [run_underlying hu]
  cases d<;>first | rfl | (exact absurd rfl (h1 _)) | (exact absurd rfl (h2 _ _))
 ·cases h
theorem zds {n:Nat} (h:szOf P T=some n) (w:World):(sizeOf T).run P w=.ok n w:=by
 unfold szOf at h
 simp only [Option.map_eq_some_iff] at h
 obtain ⟨i,hi,rfl⟩:=h
 simp [sizeOf,typeInfo,hi]

variable {w:World} {B:Nat} {X:Nat→Prop} {E:Env}
theorem ztg {row : List LV} {off : Nat} {lv : LV} (h : loadL P T row off = some lv) {ad : Addr} {cv : Nat → Value} (hc : ∀ j, j < row.length → w.cell? (ad.add j) = some (cv j))
    (hr:∀ (j:Nat) x,row[j]?=some x→RepV w B X E x (cv j)):(∃ v,(loadVar T (ad.add off)).run P w=.ok v w∧RepV w B X E lv v)∧∀ id,Ment lv id→∃ x∈row,Ment x id:=by
 unfold loadL at h
 split at h
 ·rename_i n h1 h2
  cases hb:Nat.ble (off+n) row.length with
  | false=>rw [hb] at h;cases h
  | true =>
   rw [hb] at h
   simp only [cond_true,Option.some.injEq] at h
   subst h
   have hle:off+n≤row.length:=Nat.le_of_ble_eq_true hb
   refine ⟨⟨.agg ((List.range n).map fun j=>cv (off+j)).toArray,?_,?_⟩,?_⟩
   ·simp only [loadVar,Sem.run_bind,zf5 h1,Result.andThen_ok,if_true,zds h2,Sem.run_pure]
    rw [run_loadCells w (ad.add off) n (fun j=>cv (off+j)) (fun j hj=>by rw [zi1];exact hc _ om)]
    rfl
   ·refine .agg _ _ (by simp;omega) fun i x u hx hu=>?_
    have hi:i<n:=by
     rcases Nat.lt_or_ge i n with h | h
     ·exact h
     ·rw [Array.getElem?_eq_none (by simpa using h)] at hu;cases hu
    have hu':u=cv (off+i):=by simpa [hi] using hu.symm
    subst hu'
    refine hr (off+i) x ?_
    rw [List.getElem?_take,if_pos hi,List.getElem?_drop] at hx
    exact hx
   ·intro id hm
    cases hm with
    | agg _ x _ hx hm'=>exact ⟨x,List.mem_of_mem_drop (List.mem_of_mem_take hx),hm'⟩
 ·rename_i h1
  have hlt:off<row.length:=by
   rcases Nat.lt_or_ge off row.length with h' | h'
   ·exact h'
   ·rw [List.getElem?_eq_none h'] at h;cases h
  refine ⟨⟨cv off,?_,hr off lv h⟩,fun id hm=>⟨lv,List.mem_of_getElem? h,hm⟩⟩
  simp only [loadVar,Sem.run_bind,zf5 h1,Result.andThen_ok,Bool.false_eq_true,if_false,run_load,hc off hlt]
 ·cases h
end load

section vop
variable {P:Program} {N:Nat} {w0:World} {X0:Fr} {σ:FS} {E:Env} {a:Act} {w:World}

def VOk (P:Program) (w0:World) (X0:Fr) (σ:FS) (E:Env) (a:Act) (w:World) (o:Oper) (lv:LV):Prop :=
 ∃ v,(execOp a.eval o).run P w=.ok (.value v) w∧RepV w w0.heap.size (Own σ E X0) E lv v∧∀ id,Ment lv id→σ.used id=true

theorem zr8 {T f k:Nat} (h:znq P T f=some k) (ad:Addr) (w:World):(Instr.fieldAt T (.pointer (some ad)) f).run P w=.ok (.pointer (some (ad.add k))) w:=by
 unfold znq at h
 split at h
 ·rename_i fs hu
  split at h
  ·rename_i fl hf
   split at h
   ·rename_i n hz
    cases h
    simp only [Instr.fieldAt,Sem.run_bind,run_underlying hu,Result.andThen_ok,hf,Instr.sureAddr,Sem.run_pure,fieldPlace,zds hz]
    simp
   ·cases h
  ·cases h
 ·cases h

theorem z1y (hs : Sat N w0 X0 σ E a w) {o : Oper} {c x y : Operand} (ho : o.op = .pick c x y) {bx by' bz : Bool} {p q r : List Prop}
    (h1:ev σ.slot c=some (.bool bx,p)) (h2:ev σ.slot x=some (.bool by',q)) (h3:ev σ.slot y=some (.bool bz,r))
    (ha:All (p++(q.map fun t=>bx=true→t)++(r.map fun t=>bx=false→t))):VOk P w0 X0 σ E a w o (.bool (cond bx by' bz)):=by
 obtain ⟨hab,hr⟩:=All.append.1 ha
 obtain ⟨hp,hq⟩:=All.append.1 hab
 have e1:=(zbk hs h1 hp).1.bool_inv
 refine ⟨.bool (cond bx by' bz),?_,.c _ _ (.bool _),fun id hm=>by cases hm⟩
 simp only [execOp,ho,Sem.run_bind,e1,asBool,Sem.run_pure,Result.andThen_ok]
 cases bx with
 | true=>have e2:=(zbk hs h2 (hq.map_imp rfl)).1.bool_inv;simp [e2]
 | false=>have e3:=(zbk hs h3 (hr.map_imp rfl)).1.bool_inv;simp [e3]

theorem zrf (hs : Sat N w0 X0 σ E a w) {o : Oper} {T : TypeId} {x : Operand} (ho : o.op = .load T x) {lv : LV} {row : List LV} {off : Nat} (hl : loadL P T row off = some lv)
    {ad:Addr} {cv:Nat→Value} (he:a.eval x=.pointer (some (ad.add off))) (hc:∀ j,j<row.length→w.cell? (ad.add j)=some (cv j))
    (hr:∀ (j:Nat) y,row[j]?=some y→RepV w w0.heap.size (Own σ E X0) E y (cv j)) (hm:∀ y,y∈row→∀ id,Ment y id→σ.used id=true):VOk P w0 X0 σ E a w o lv:=by
 obtain ⟨⟨v,h1,h2⟩,h3⟩:=ztg hl hc hr
 refine ⟨v,?_,h2,fun id hmm=>by obtain ⟨y,hy,hyy⟩:=h3 id hmm;exact hm y hy id hyy⟩
 simp only [execOp,ho,Sem.run_bind,he,Instr.loadAt,Instr.sureAddr,Sem.run_pure,Result.andThen_ok,h1]

theorem zsn (hs : Sat N w0 X0 σ E a w) {o : Oper} {T : TypeId} {x : Operand} (ho : o.op = .load T x) {lv : LV} {id off : Nat} {cells : List LV}
    (hx:RepV w w0.heap.size (Own σ E X0) E (.vp id off) (a.eval x)) (hb:σ.blk id=some (.var cells)) (hl:loadL P T cells off=some lv):VOk P w0 X0 σ E a w o lv:=by
 obtain ⟨b,g1,g2⟩:=hx.vp_inv
 obtain ⟨b',vs,T',k1,k2,k3,k4,k5⟩:=hs.blks id _ hb
 rw [g1] at k1;cases k1
 refine zrf hs ho hl (ad:=⟨b,0,none⟩) (cv:=fun j=>vs.getD j undef) (by rw [zc1,Nat.zero_add];exact g2) (fun j hj=>?_) (fun j y hy=>?_) fun y hy id' hm=>hs.wfb id cells y id' hb hy hm
 ·rw [zc1,Nat.zero_add]
  have hj':j<vs.size:=by omega
  simp [World.cell?,k3,hj']
 ·have hj:j<vs.size:=by
   rw [k4]
   rcases Nat.lt_or_ge j cells.length with h' | h'
   ·exact h'
   ·rw [List.getElem?_eq_none h'] at hy;cases hy
  exact k5 j y _ hy (by simp [hj])

theorem zuc (hs : Sat N w0 X0 σ E a w) {o : Oper} {T : TypeId} {x : Operand} (ho : o.op = .load T x) {lv : LV} {row : List LV} {off : Nat}
    (hx:RepV w w0.heap.size (Own σ E X0) E (.ep row off) (a.eval x)) (hl:loadL P T row off=some lv):VOk P w0 X0 σ E a w o lv:=by
 have h:=hx.ep_inv
 generalize he:a.eval x=v at h
 cases h with
 | ep _ _ ad cv hlt hX hc hr =>
  exact zrf hs ho hl he hc (fun j y hy=>.c _ _ (hr j y hy)) fun y hy id hm=>by
   obtain ⟨j,hj,e⟩:=List.getElem_of_mem hy
   exact absurd hm ((hr j y zav).noMent id)

theorem zud (hs : Sat N w0 X0 σ E a w) {o : Oper} {T : TypeId} {x : Operand} (ho : o.op = .load T x) {lv : LV} {id sz i off n : Nat} {row : Nat → List LV}
    (hx:RepV w w0.heap.size (Own σ E X0) E (.ap id sz i off) (a.eval x)) (hb:σ.blk id=some (.arr sz n row)) (hl:loadL P T (row i) off=some lv):VOk P w0 X0 σ E a w o lv:=by
 obtain ⟨b,g1,g2,g3⟩:=hx.ap_inv
 obtain ⟨hn,hk⟩:=hs.blks id _ hb
 rcases hk with ⟨k1,_⟩ | ⟨b',cap,vs,T',k1,k2,k3,k4,k5,k6,k7,k8⟩
 ·rw [g1] at k1;cases k1
 ·rw [g1] at k1;cases k1
  rw [hn] at g2
  obtain ⟨hsz,_,hrow⟩:=k8 i g2
  have hbd:∀ j,j<sz→(E id).off+i * sz+j<vs.size:=fun j hj=>by
   have h1:i * sz+sz≤cap * sz:=by rw [← Nat.succ_mul];exact Nat.mul_le_mul_right sz om
   omega
  refine zrf hs ho hl (ad:=⟨b,(E id).off+i * sz,none⟩) (cv:=fun j=>vs.getD ((E id).off+i * sz+j) undef) (by rw [zc1];exact g3) (fun j hj=>?_) (fun j y hy=>?_) fun y hy id' hm=>?_
  ·rw [zc1]
   have:=hbd j om
   simp [World.cell?,k4,this]
  ·have hj:j<sz:=by
    rw [← hsz]
    rcases Nat.lt_or_ge j (row i).length with h' | h'
    ·exact h'
    ·rw [List.getElem?_eq_none h'] at hy;cases hy
   have:=hbd j hj
   exact .c _ _ (hrow j y _ hy (by simp [this]))
  ·obtain ⟨j,hj,e⟩:=List.getElem_of_mem hy
   have:=hbd j om
   exact absurd hm ((hrow j y (vs.getD ((E id).off+i * sz+j) undef) zav (by simp [this])).noMent id')

theorem zha (hs : Sat N w0 X0 σ E a w) {o : Oper} {T f : Nat} {x : Operand} (ho : o.op = .fieldAddr T x f) {k : Nat} (hk : znq P T f = some k) {lv : LV}
    (hx:RepV w w0.heap.size (Own σ E X0) E lv (a.eval x)) (hm:∀ id,Ment lv id→σ.used id=true) :
    (∀ id off,lv=.vp id off→VOk P w0 X0 σ E a w o (.vp id (off+k)))∧(∀ row off,lv=.ep row off→VOk P w0 X0 σ E a w o (.ep row (off+k))) ∧
    (∀ id sz i off,lv=.ap id sz i off→VOk P w0 X0 σ E a w o (.ap id sz i (off+k))):=by
 have run:∀ ad:Addr,a.eval x=.pointer (some ad)→(execOp a.eval o).run P w=.ok (.value (.pointer (some (ad.add k)))) w:=fun ad he=>by
  simp only [execOp,ho,Sem.run_bind,he,zr8 hk,Result.andThen_ok,Sem.run_pure]
 refine ⟨?_,?_,?_⟩
 ·rintro id off rfl
  obtain ⟨b,g1,g2⟩:=hx.vp_inv
  exact ⟨_,run _ g2,by rw [zc1];exact .vp id (off+k) b g1,fun id' hm'=>by cases hm';exact hm id (.vp id off)⟩
 ·rintro row off rfl
  have h:=hx.ep_inv
  generalize he:a.eval x=v at h
  cases h with
  | ep _ _ ad cv hlt hX hc hr=>exact ⟨_,run _ he,.c _ _ (by rw [zi1];exact .ep row (off+k) ad cv hlt hX hc hr),fun id hm'=>by cases hm'⟩
 ·rintro id sz i off rfl
  obtain ⟨b,g1,g2,g3⟩:=hx.ap_inv
  exact ⟨_,run _ g3,by rw [zc1,Nat.add_assoc ((E id).off+i * sz)];exact .ap id sz i (off+k) b g1 g2,fun id' hm'=>by cases hm';exact hm id (.ap id sz i off)⟩

theorem z0l {T e:TypeId} (h:P.underlying T=some (.slice e)):P.underlying T=some (.slice (P.elem T)):=by
 unfold Program.elem;rw [h]
theorem z5a {T e:TypeId} (h:P.underlying T=some (.slice e)):P.elem T=e:=by
 unfold Program.elem;rw [h]
theorem zgq {T e s : Nat} (hu : P.underlying T = some (.slice e)) (hz : szOf P e = some s) {ad : Addr} {len cap : Nat} {k : IntKind} {j : Int} (h0 : 0 ≤ j) (h1 : j < (len : Int)) (w : World) :
    (Instr.indexAt T (.slice (some ad) len cap) (.int k j)).run P w=.ok (.pointer (some (ad.add (j.toNat * s)))) w:=by
 rw [run_indexAt_slice w T ad len cap k j (z0l hu),if_pos ⟨h0,h1⟩,z5a hu,zds hz]
 rfl

theorem zso (hs : Sat N w0 X0 σ E a w) {o : Oper} {T : Nat} {x i : Operand} (ho : o.op = .indexAddr T x i) {e s : Nat} (hu : P.underlying T = some (.slice e)) (hz : szOf P e = some s)
    {fr:Bool} {n:Nat} {row:Nat→List LV} (hx:RepV w w0.heap.size (Own σ E X0) E (.ro fr s n row) (a.eval x)) {k:IntKind} {j:Int} (hi:RepV w w0.heap.size (Own σ E X0) E (.int k j) (a.eval i))
    (h0:0≤j) (h1:j<(n:Int)):VOk P w0 X0 σ E a w o (.ep (row j.toNat) 0):=by
 have hi:=hi.int_inv
 have h:=hx.ro_inv
 generalize he:a.eval x=v at h
 cases h with
 | ro _ _ _ _ A ad cap cv hcap hA hlt hX hb hsz ho1 hc hr =>
  have hn:0<n:=by omega
  have hj:j.toNat<n:=by omega
  rw [hA hn] at he
  refine ⟨.pointer (some (ad.add (j.toNat * s))),by simp only [execOp,ho,Sem.run_bind,he,hi,zgq hu hz h0 h1,Result.andThen_ok,Sem.run_pure],.c _ _ ?_,fun id hm=>by cases hm⟩
  have := RepC.ep (w := w) (B := w0.heap.size) (X := Own σ E X0) (row j.toNat) 0 (ad.add (j.toNat * s)) (cv j.toNat) (by rw [zes]; exact hlt hn) (by rw [zes]; exact hX hn)
    (fun m hm=>by rw [zi1];exact hc j.toNat m hj (by rw [hsz _ hj] at hm;exact hm)) (fun m lv hl=>hr j.toNat m lv hj hl)
  rw [zi1,Nat.add_zero] at this
  exact this

theorem zrh (hs : Sat N w0 X0 σ E a w) {o : Oper} {T : Nat} {x i : Operand} (ho : o.op = .indexAddr T x i) {e n : Nat} (hu : P.underlying T = some (.array n e)) (hz : szOf P e = some 1)
    {row:List LV} (hn:row.length=n) (hx:RepV w w0.heap.size (Own σ E X0) E (.ep row 0) (a.eval x)) {k:IntKind} {j:Int} (hi:RepV w w0.heap.size (Own σ E X0) E (.int k j) (a.eval i))
    (h0:0≤j) (h1:j<(n:Int)):VOk P w0 X0 σ E a w o (.ep [row.getD j.toNat .nilS] 0):=by
 have hi:=hi.int_inv
 generalize he:a.eval x=v at hx
 cases hx with
 | c _ _ h =>
  cases h with
  | ep _ _ ad cv hlt hX hc hr =>
   have hj:j.toNat<row.length:=by omega
   have hal:P.arrayLen T=n:=by unfold Program.arrayLen;rw [hu]
   have hel:P.elem T=e:=by unfold Program.elem;rw [hu]
   have ha0:ad.add 0=ad:=by unfold Addr.add;simp
   refine ⟨.pointer (some (ad.add (j.toNat * 1))),?_,.c _ _ ?_,fun id hm=>by cases hm⟩
   ·simp only [execOp,ho,Sem.run_bind,he,hi]
    rw [ha0,run_indexAt_array w T ad k j (by rw [hal,hel];exact hu),if_pos ⟨h0,by rw [hal];exact h1⟩,hel,zds hz]
    simp only [Result.andThen_ok,Sem.run_pure]
   ·have := RepC.ep (w := w) (B := w0.heap.size) (X := Own σ E X0) [row.getD j.toNat .nilS] 0 (ad.add j.toNat) (fun m => cv (j.toNat + m)) (by rw [zes]; exact hlt) (by rw [zes]; exact hX)
      (fun m hm=>by rw [zi1];exact hc _ (by simp at hm;omega)) (fun m lv hl=>by
        cases m with
        | zero =>
          simp only [List.getElem?_cons_zero,Option.some.injEq] at hl
          subst hl
          refine hr j.toNat _ ?_
          rw [List.getD_eq_getElem?_getD,List.getElem?_eq_getElem hj];rfl
        | succ m=>simp at hl)
    rw [zi1,Nat.add_zero] at this
    rw [Nat.mul_one]
    exact this

theorem zps (hs : Sat N w0 X0 σ E a w) {o : Oper} {T : Nat} {x i : Operand} (ho : o.op = .indexAddr T x i) {e n s : Nat} (hu : P.underlying T = some (.array n e)) (hz : szOf P e = some s)
    {id m:Nat} {row:Nat→List LV} (hx:RepV w w0.heap.size (Own σ E X0) E (.ap id s 0 0) (a.eval x)) (hb:σ.blk id=some (.arr s m row)) {k:IntKind} {j:Int} (hi:RepV w w0.heap.size (Own σ E X0) E (.int k j) (a.eval i))
    (h0:0≤j) (h1:j<(n:Int)) (h2:j<(m:Int)):VOk P w0 X0 σ E a w o (.ap id s j.toNat 0):=by
 have hi:=hi.int_inv
 obtain ⟨b,hbb,hn,e1⟩:=hx.ap_inv
 have hal:P.arrayLen T=n:=by unfold Program.arrayLen;rw [hu]
 have hel:P.elem T=e:=by unfold Program.elem;rw [hu]
 have hm:(E id).n=m:=(hs.blks id _ hb).1
 refine ⟨.pointer (some ⟨b,(E id).off+j.toNat * s+0,none⟩),?_,.ap id s _ _ b hbb om,fun id' hm'=>by cases hm';exact hs.live id (by rw [hb];simp)⟩
 simp only [execOp,ho,Sem.run_bind,e1,hi]
 rw [run_indexAt_array w T _ k j (by rw [hal,hel];exact hu),if_pos ⟨h0,by rw [hal];exact h1⟩,hel,zds hz]
 simp only [Result.andThen_ok,Sem.run_pure,zc1,Nat.zero_mul,Nat.add_zero]

theorem zrg (hs : Sat N w0 X0 σ E a w) {o : Oper} {T : Nat} {x i : Operand} (ho : o.op = .indexAddr T x i) {e s : Nat} (hu : P.underlying T = some (.slice e)) (hz : szOf P e = some s)
    {id n:Nat} {row:Nat→List LV} (hx:RepV w w0.heap.size (Own σ E X0) E (.own id) (a.eval x)) (hb:σ.blk id=some (.arr s n row)) {k:IntKind} {j:Int} (hi:RepV w w0.heap.size (Own σ E X0) E (.int k j) (a.eval i))
    (h0:0≤j) (h1:j<(n:Int)):VOk P w0 X0 σ E a w o (.ap id s j.toNat 0):=by
 have hi:=hi.int_inv
 have he:=hx.own_inv
 obtain ⟨hn,hk⟩:=hs.blks id _ hb
 rcases hk with ⟨_,_,k3⟩ | ⟨b',cap,vs,T',k1,k2,_⟩
 ·omega
 ·rw [k2] at he
  refine ⟨.pointer (some ((⟨b',(E id).off,none⟩:Addr).add (j.toNat * s))),by simp only [execOp,ho,Sem.run_bind,he,hi,zgq hu hz h0 h1,Result.andThen_ok,Sem.run_pure],?_,fun id' hm=>by cases hm;exact hs.live id (by rw [hb];simp)⟩
  rw [zc1]
  exact .ap id s j.toNat 0 b' k1 (by rw [hn];omega)
theorem zpr (hs : Sat N w0 X0 σ E a w) {o : Oper} {T : Nat} {x i : Operand} (ho : o.op = .indexAddr T x i) {e : Nat} (hu : P.underlying T = some (.slice e)) {wd : Nat} (hz : szOf P e = some wd)
    {id n sz:Nat} {cl:Bool} {rows:Nat→NR} (hx:RepV w w0.heap.size (Own σ E X0) E (.own id) (a.eval x)) (hb:σ.blk id=some (.nest wd cl sz n rows)) {k:IntKind} {j:Int} (hi:RepV w w0.heap.size (Own σ E X0) E (.int k j) (a.eval i))
    (h0:0≤j) (h1:j<(n:Int)):VOk P w0 X0 σ E a w o (.ap id wd j.toNat 0):=by
 have hi:=hi.int_inv
 have he:=hx.own_inv
 obtain ⟨ek,_,hn,hk⟩:=hs.blks id _ hb
 rcases hk with ⟨_,_,k3⟩ | ⟨b',cap,vs,T',k1,k2,_⟩
 ·omega
 ·rw [k2] at he
  refine ⟨.pointer (some ((⟨b',(E id).off,none⟩:Addr).add (j.toNat * wd))),by simp only [execOp,ho,Sem.run_bind,he,hi,zgq hu hz h0 h1,Result.andThen_ok,Sem.run_pure],?_,fun id' hm=>by cases hm;exact hs.live id (by rw [hb];simp)⟩
  rw [zc1]
  exact .ap id wd j.toNat 0 b' k1 (by rw [hn];omega)

theorem zx4 {k k':IntKind} (h:decide (k=k')=true):k=k':=of_decide_eq_true h

theorem ztc (l:List UInt8):(⟨l.toArray⟩:ByteArray).toList=l:=by
 rw [ByteArray.toList_eq]

theorem okI {k:IntKind} {n:Int} {B:Nat} {X:Nat→Prop} {r:Result Value} (h:r=.ok (.int k n) w):∃ v,r=.ok v w∧RepC w B X (.int k n) v:=⟨_,h,.int _ _⟩
theorem okB {b:Bool} {B:Nat} {X:Nat→Prop} {r:Result Value} (h:r=.ok (.bool b) w):∃ v,r=.ok v w∧RepC w B X (.bool b) v:=⟨_,h,.bool _⟩

theorem z2x {op : BinOp} {wr : Bool} {x y lv : LV} {p : List Prop} (h : binL op wr x y = some (lv, p)) (ha : All p) {T : TypeId} {vx vy : Value} {B : Nat} {X : Nat → Prop}
    (hx:RepV w B X E x vx) (hy:RepV w B X E y vy):(∃ v,(binOp op T vx vy).run P w=.ok v w∧RepC w B X lv v):=by
 unfold binL at h
 split at h
 ·rename_i k a' k' b'
  have ex:=hx.int_inv
  have ey:=hy.int_inv
  subst ex;subst ey
  cases hk:decide (k=k') with
  | false =>
   rw [hk] at h
   simp only [cond_false] at h
   cases op<;>simp only [reduceCtorEq] at h
   case shl => cases wr <;> simp only [cond_true, cond_false, Option.some.injEq, Prod.mk.injEq] at h <;> obtain ⟨rfl, rfl⟩ := h
               · exact okI (by rw [binOp_shl,shift_shl _ _ _ _ ha.1.1 ha.1.2,zdx ha.2.1];rfl)
               · exact okI (by rw [binOp_shl,shift_shl _ _ _ _ ha.1.1 ha.1.2];rfl)
   case shr=>simp only [Option.some.injEq,Prod.mk.injEq] at h;obtain ⟨rfl,rfl⟩:=h;exact okI (by rw [binOp_shr,shift_shr _ _ _ _ ha.1.1 ha.1.2];rfl)
  | true =>
   have hkk:=zx4 hk
   subst hkk
   rw [hk] at h
   simp only [cond_true] at h
   cases op<;>simp only [reduceCtorEq] at h
   case add => cases wr <;> simp only [cond_true, cond_false, Option.some.injEq, Prod.mk.injEq] at h <;> obtain ⟨rfl, rfl⟩ := h
               · exact okI (by simp [binOp_add,Op.intArith,zdx ha.1])
               · exact okI (by simp [binOp_add,Op.intArith])
   case sub => cases wr <;> simp only [cond_true, cond_false, Option.some.injEq, Prod.mk.injEq] at h <;> obtain ⟨rfl, rfl⟩ := h
               · exact okI (by simp [binOp_sub,Op.intArith,zdx ha.1])
               · exact okI (by simp [binOp_sub,Op.intArith])
   case mul => cases wr <;> simp only [cond_true, cond_false, Option.some.injEq, Prod.mk.injEq] at h <;> obtain ⟨rfl, rfl⟩ := h
               · exact okI (by simp [binOp_mul,Op.intArith,zdx ha.1])
               · exact okI (by simp [binOp_mul,Op.intArith])
   case quo => cases wr <;> simp only [cond_true, cond_false, Option.some.injEq, Prod.mk.injEq] at h <;> obtain ⟨rfl, rfl⟩ := h
               · exact okI (by simp [binOp_quo,Op.intDiv,zdx ha.2.1,ha.1])
               · exact okI (by simp [binOp_quo,Op.intDiv,ha.1])
   case rem=>simp only [Option.some.injEq,Prod.mk.injEq] at h;obtain ⟨rfl,rfl⟩:=h;exact okI (by simp [binOp_rem,Op.intDiv,ha.1])
   case and=>simp only [Option.some.injEq,Prod.mk.injEq] at h;obtain ⟨rfl,rfl⟩:=h;exact okI (by simp [binOp_and,intBits_and])
   case or=>simp only [Option.some.injEq,Prod.mk.injEq] at h;obtain ⟨rfl,rfl⟩:=h;exact okI (by simp [binOp_or,intBits_or])
   case xor=>simp only [Option.some.injEq,Prod.mk.injEq] at h;obtain ⟨rfl,rfl⟩:=h;exact okI (by simp [binOp_xor,intBits_xor])
   case shl => cases wr <;> simp only [cond_true, cond_false, Option.some.injEq, Prod.mk.injEq] at h <;> obtain ⟨rfl, rfl⟩ := h
               · exact okI (by rw [binOp_shl,shift_shl _ _ _ _ ha.1.1 ha.1.2,zdx ha.2.1];rfl)
               · exact okI (by rw [binOp_shl,shift_shl _ _ _ _ ha.1.1 ha.1.2];rfl)
   case shr=>simp only [Option.some.injEq,Prod.mk.injEq] at h;obtain ⟨rfl,rfl⟩:=h;exact okI (by rw [binOp_shr,shift_shr _ _ _ _ ha.1.1 ha.1.2];rfl)
   all_goals (simp only [Option.some.injEq,Prod.mk.injEq] at h;obtain ⟨rfl,rfl⟩:=h;exact okB (by simp [binOp,Op.intCmp,bne,BEq.beq]))
 ·rename_i a' b'
  have ex:=hx.str_inv
  have ey:=hy.str_inv
  subst ex;subst ey
  cases op<;>simp only [reduceCtorEq] at h
  case add =>
   simp only [Option.some.injEq,Prod.mk.injEq] at h
   obtain ⟨rfl,rfl⟩:=h
   simp only [All] at ha
   refine ⟨.string (⟨a'.toArray⟩++⟨b'.toArray⟩),?_,?_⟩
   ·have hh:¬ (((⟨a'.toArray⟩:ByteArray).size+(⟨b'.toArray⟩:ByteArray).size:Nat):Int) > IntKind.i64.max:=by
     simp [IntKind.max,IntKind.signed,IntKind.bits,ByteArray.size]
     have:=ha.1
     omega
    simp only [binOp,Op.stringOp]
    rw [if_neg hh]
    rfl
   ·have:(⟨a'.toArray⟩++⟨b'.toArray⟩:ByteArray)=⟨(a'++b').toArray⟩:=by
     apply ByteArray.ext
     simp
    rw [this]
    exact .str _
  all_goals (simp only [Option.some.injEq,Prod.mk.injEq] at h;obtain ⟨rfl,rfl⟩:=h;exact okB (by simp only [binOp,Op.stringOp,ztc];rfl))
 ·cases h

theorem zy8 {T:Nat} (hu:P.underlying T=some .bool) {x y:Bool}:(binOp .eql T (.bool x) (.bool y)).run P w=.ok (.bool (x==y)) w∧(binOp .neq T (.bool x) (.bool y)).run P w=.ok (.bool (!(x==y))) w:=by
 have h:∀ d:Nat,(Op.equalIn (d+1) T (.bool x) (.bool y)).run P w=.ok (x==y) w:=fun d=>by
  simp [Op.equalIn,run_underlying hu]
 constructor
 ·simp only [binOp]
  simp [Op.equal,Op.maxDepth,h 9999]
 ·simp only [binOp]
  simp [Op.equal,Op.maxDepth,h 9999]
theorem zsd {α:Type} {c:Bool} {x y:α} (h:(bif c then some x else none)=some y):c=true∧x=y:=by
 cases c with
 | true=>exact ⟨rfl,by simpa using h⟩
 | false=>cases h
theorem zlp {α:Type} {c:Bool} {x:Option α} {y:α} (h:(bif c then x else none)=some y):c=true∧x=some y:=by
 cases c with
 | true=>exact ⟨rfl,by simpa using h⟩
 | false=>cases h
theorem zlj {d : Nat} {l m : List LV} {xs ys : Array Value} {B : Nat} {X : Nat → Prop} (hl : xs.size = l.length) (hm : ys.size = m.length)
    (h1:∀ (i:Nat) lv v,l[i]?=some lv→xs[i]?=some v→RepV w B X E lv v) (h2:∀ (i:Nat) lv v,m[i]?=some lv→ys[i]?=some v→RepV w B X E lv v) :
    ∀ {fs:List Field} {c:Bool},eqFs P l m fs=some c→(Op.eqFields (d+1) xs ys fs).run P w=.ok c w
 | [],c,h=>by cases h;rfl
 | f :: fs,c,h=>by
  have part_run:∀ {T:TypeId} {cs:Array Value} {k:Nat} {v:Value},aggOf P T=some false→cs[k]?=some v→(part T cs k).run P w=.ok v w:=fun {T cs k v} ha hv=>by
   have hg:(isAgg T).run P w=.ok false w:=by
    unfold aggOf at ha
    split at ha
    ·cases ha
    ·cases ha
    ·rename_i u hu1 hu2 hu
     simp only [isAgg,Sem.run_bind,run_underlying hu,Result.andThen_ok]
     exact Sem.run_pure ..
    ·cases ha
   simp only [part,Sem.run_bind,hg,Result.andThen_ok,Bool.false_eq_true,if_false,hv,Sem.run_pure]
  have get:∀ {l:List LV} {xs:Array Value} {k:Nat} {lv:LV},xs.size=l.length→l[k]?=some lv→∃ v,xs[k]?=some v:=fun {l xs k lv} hs hk=>by
   have:=(List.getElem?_eq_some_iff.1 hk).1
   exact ⟨xs[k]' om,Array.getElem?_eq_getElem om⟩
  unfold eqFs at h
  split at h
  ·rename_i k a k' b c' ha hu hx hy hc
   obtain ⟨hk,e⟩:=zsd h
   obtain ⟨hk1,hk2⟩:=Bool.and_eq_true_iff.1 hk
   have ek:=of_decide_eq_true hk1
   subst ek;subst e
   have hn : f.name ≠ "_" := by simpa using hk2
   obtain ⟨v1,g1⟩:=get hl hx
   obtain ⟨v2,g2⟩:=get hm hy
   have e1:=(h1 _ _ _ hx g1).int_inv
   have e2:=(h2 _ _ _ hy g2).int_inv
   subst e1;subst e2
   have ih:=zlj (d:=d) hl hm h1 h2 hc
   have hq:(Op.equalIn (d+1) f.type (.int k a) (.int k b)).run P w=.ok (decide (a=b)) w:=by
    rw [run_equalIn_int w d f.type k _ a b hu];congr 1
   simp only [Op.eqFields,hn,ne_eq,not_false_eq_true,if_true,Sem.run_bind,part_run ha g1,part_run ha g2,Result.andThen_ok,hq,Sem.run_ite]
   cases hd:decide (a=b)
   ·simp
   ·simp only [Bool.not_true,Bool.false_eq_true,if_false,Bool.true_and];exact ih
  ·rename_i a b c' ha hu hx hy hc
   obtain ⟨hk,e⟩:=zsd h
   subst e
   have hn : f.name ≠ "_" := by simpa using hk
   obtain ⟨v1,g1⟩:=get hl hx
   obtain ⟨v2,g2⟩:=get hm hy
   have e1:=(h1 _ _ _ hx g1).bool_inv
   have e2:=(h2 _ _ _ hy g2).bool_inv
   subst e1;subst e2
   have ih:=zlj (d:=d) hl hm h1 h2 hc
   simp only [Op.eqFields,hn,ne_eq,not_false_eq_true,if_true,Sem.run_bind,part_run ha g1,part_run ha g2,Result.andThen_ok,run_equalIn_bool' w d f.type a b hu,Sem.run_ite]
   cases hd:(a==b)
   ·simp
   ·simp only [Bool.not_true,Bool.false_eq_true,if_false,Bool.true_and];exact ih
  ·rename_i a b c' ha hu hx hy hc
   obtain ⟨hk,e⟩:=zsd h
   subst e
   have hn : f.name ≠ "_" := by simpa using hk
   obtain ⟨v1,g1⟩:=get hl hx
   obtain ⟨v2,g2⟩:=get hm hy
   have e1:=(h1 _ _ _ hx g1).str_inv
   have e2:=(h2 _ _ _ hy g2).str_inv
   subst e1;subst e2
   have ih:=zlj (d:=d) hl hm h1 h2 hc
   have hq:(Op.equalIn (d+1) f.type (.string ⟨a.toArray⟩) (.string ⟨b.toArray⟩)).run P w=.ok (a==b) w:=by
    rw [run_equalIn_string w d f.type _ _ hu];simp only [ztc]
   simp only [Op.eqFields,hn,ne_eq,not_false_eq_true,if_true,Sem.run_bind,part_run ha g1,part_run ha g2,Result.andThen_ok,hq,Sem.run_ite]
   cases hd:(a==b)
   ·simp
   ·simp only [Bool.not_true,Bool.false_eq_true,if_false,Bool.true_and];exact ih
  ·cases h
theorem z2z {op : BinOp} {T : Nat} {x y lv : LV} (h : binB P op T x y = some lv) {vx vy : Value} {B : Nat} {X : Nat → Prop}
    (hx:RepV w B X E x vx) (hy:RepV w B X E y vy):(∃ v,(binOp op T vx vy).run P w=.ok v w∧RepC w B X lv v):=by
 unfold binB at h
 split at h
 ·rename_i a' b' hu
  have ex:=hx.bool_inv
  have ey:=hy.bool_inv
  subst ex;subst ey
  cases h
  exact okB (zy8 hu).1
 ·rename_i a' b' hu
  have ex:=hx.bool_inv
  have ey:=hy.bool_inv
  subst ex;subst ey
  cases h
  exact okB (zy8 hu).2
 ·rename_i l m fs hu
  obtain ⟨hk,e⟩:=zlp h
  simp only [Option.map_eq_some_iff] at e
  obtain ⟨c,hc,e⟩:=e
  subst e
  obtain ⟨hk1,hk2⟩:=Bool.and_eq_true_iff.1 hk
  obtain ⟨xs,rfl,hl,h1⟩:=hx.agg_inv
  obtain ⟨ys,rfl,hm,h2⟩:=hy.agg_inv
  have hf:P.underlying T=some (.struct (P.fieldsOf T)):=by unfold Program.fieldsOf;rw [hu]
  have hf2:P.fieldsOf T=fs:=by unfold Program.fieldsOf;rw [hu]
  refine okB ?_
  rw [run_eql_struct,run_equalIn_struct w 9999 T xs ys hf (by simpa using hk1),hf2,zlj (d:=9998) hl hm h1 h2 hc]
  rfl
 ·rename_i l m fs hu
  obtain ⟨hk,e⟩:=zlp h
  simp only [Option.map_eq_some_iff] at e
  obtain ⟨c,hc,e⟩:=e
  subst e
  obtain ⟨hk1,hk2⟩:=Bool.and_eq_true_iff.1 hk
  obtain ⟨xs,rfl,hl,h1⟩:=hx.agg_inv
  obtain ⟨ys,rfl,hm,h2⟩:=hy.agg_inv
  have hf:P.underlying T=some (.struct (P.fieldsOf T)):=by unfold Program.fieldsOf;rw [hu]
  have hf2:P.fieldsOf T=fs:=by unfold Program.fieldsOf;rw [hu]
  refine okB ?_
  rw [run_neq_struct,run_equalIn_struct w 9999 T xs ys hf (by simpa using hk1),hf2,zlj (d:=9998) hl hm h1 h2 hc]
  rfl
 ·cases h

theorem zz4 {y:Operand} (h:zz5 y=true):y=.const .nilIface:=by
 unfold zz5 at h
 split at h
 ·rfl
 ·cases h
theorem zsv {T:Nat} {ms:Array (String×TypeId)} (hu:P.underlying T=some (.interface ms)):(binOp .eql T .nilIface .nilIface).run P w=.ok (.bool true) w∧(binOp .neq T .nilIface .nilIface).run P w=.ok (.bool false) w:=by
 have h:∀ d:Nat,(Op.equalIn (d+1) T .nilIface .nilIface).run P w=.ok true w:=fun d=>by simp [Op.equalIn,run_underlying hu]
 constructor
 ·simp only [binOp]
  simp [Op.equal,Op.maxDepth,h 9999]
 ·simp only [binOp]
  simp [Op.equal,Op.maxDepth,h 9999]
theorem zn9 {T t:Nat} {u:Value} {ms:Array (String×TypeId)} (hu:P.underlying T=some (.interface ms)):(binOp .eql T (.iface t u) .nilIface).run P w=.ok (.bool false) w∧(binOp .neq T (.iface t u) .nilIface).run P w=.ok (.bool true) w:=by
 have h:∀ d:Nat,(Op.equalIn (d+1) T (.iface t u) .nilIface).run P w=.ok false w:=fun d=>by simp [Op.equalIn,run_underlying hu]
 constructor
 ·simp only [binOp]
  simp [Op.equal,Op.maxDepth,h 9999]
 ·simp only [binOp]
  simp [Op.equal,Op.maxDepth,h 9999]
theorem z2v {op : BinOp} {T : Nat} {x lv : LV} {y : Bool} (h : binN P op T x y = some lv) {vx : Value} {B : Nat} {X : Nat → Prop} (hx : RepV w B X E x vx) :
    (∃ v,(binOp op T vx .nilIface).run P w=.ok v w∧RepC w B X lv v)∧y=true∧∀ (ox:Operand),(eqGuard op T ox (.const .nilIface) vx .nilIface).run P w=.ok () w:=by
 unfold binN at h
 split at h
 ·rename_i b ms hu
  cases h
  cases hx.er_inv with
  | er _ v h0 h1 =>
   cases b with
   | false =>
    obtain rfl:=h0 rfl
    refine ⟨okB ?_,rfl,fun ox=>by simp [eqGuard]⟩
    exact (zsv hu).1
   | true =>
    obtain ⟨t,u,rfl⟩:=h1 rfl
    refine ⟨okB ?_,rfl,fun ox=>by simp [eqGuard]⟩
    exact (zn9 hu).1
 ·rename_i b ms hu
  cases h
  cases hx.er_inv with
  | er _ v h0 h1 =>
   cases b with
   | false =>
    obtain rfl:=h0 rfl
    refine ⟨okB ?_,rfl,fun ox=>by simp [eqGuard]⟩
    exact (zsv hu).2
   | true =>
    obtain ⟨t,u,rfl⟩:=h1 rfl
    refine ⟨okB ?_,rfl,fun ox=>by simp [eqGuard]⟩
    exact (zn9 hu).2
 ·cases h
theorem zvb {op:BinOp} {T:Nat} {x y:Operand} {k k':IntKind} {a b:Int}:(eqGuard op T x y (.int k a) (.int k' b)).run P w=.ok () w:=by
 unfold eqGuard;cases op<;>rfl
theorem zva {op:BinOp} {T:Nat} {x y:Operand} {a b:ByteArray}:(eqGuard op T x y (.string a) (.string b)).run P w=.ok () w:=by
 unfold eqGuard;cases op<;>rfl
theorem zmu {op:BinOp} {T:Nat} {x y:Operand} {a b:Bool}:(eqGuard op T x y (.bool a) (.bool b)).run P w=.ok () w:=by
 unfold eqGuard;cases op<;>rfl
theorem zyh {op : BinOp} {wr : Bool} {x y lv : LV} {p : List Prop} (h : binL op wr x y = some (lv, p)) {T : TypeId} {ox oy : Operand} {vx vy : Value} {B : Nat} {X : Nat → Prop}
    (hx:RepV w B X E x vx) (hy:RepV w B X E y vy):(eqGuard op T ox oy vx vy).run P w=.ok () w:=by
 unfold binL at h
 split at h
 ·have ex:=hx.int_inv
  have ey:=hy.int_inv
  subst ex;subst ey
  exact zvb
 ·have ex:=hx.str_inv
  have ey:=hy.str_inv
  subst ex;subst ey
  exact zva
 ·cases h
theorem zyi {op : BinOp} {T : Nat} {x y lv : LV} (h : binB P op T x y = some lv) {ox oy : Operand} {vx vy : Value} {B : Nat} {X : Nat → Prop}
    (hx:RepV w B X E x vx) (hy:RepV w B X E y vy):(eqGuard op T ox oy vx vy).run P w=.ok () w:=by
 unfold binB at h
 split at h
 ·have ex:=hx.bool_inv
  have ey:=hy.bool_inv
  subst ex;subst ey
  exact zmu
 ·have ex:=hx.bool_inv
  have ey:=hy.bool_inv
  subst ex;subst ey
  exact zmu
 ·obtain ⟨hk,e⟩:=zlp h
  obtain ⟨hk1,hk2⟩:=Bool.and_eq_true_iff.1 hk
  obtain ⟨xs,rfl,_⟩:=hx.agg_inv
  obtain ⟨ys,rfl,_⟩:=hy.agg_inv
  exact run_eqGuard_agg w _ _ _ _ _ _ (by simpa using hk2)
 ·obtain ⟨hk,e⟩:=zlp h
  obtain ⟨hk1,hk2⟩:=Bool.and_eq_true_iff.1 hk
  obtain ⟨xs,rfl,_⟩:=hx.agg_inv
  obtain ⟨ys,rfl,_⟩:=hy.agg_inv
  exact run_eqGuard_agg w _ _ _ _ _ _ (by simpa using hk2)
 ·cases h

theorem znm {mx : Bool} {k : IntKind} : ∀ {a : Int} {l : List LV} {lv : LV}, maxL mx k a l = some lv → ∀ {vs : List Value} {B : Nat} {X : Nat → Prop},
    vs.length=l.length→(∀ (i:Nat) x v,l[i]?=some x→vs[i]?=some v→RepV w B X E x v)→∃ n,lv=.int k n∧(vs.foldlM (if mx then Builtin.max2 else Builtin.min2) (.int k a)).run P w=.ok (.int k n) w
 | a,[],lv,h,vs,B,X,hl,_=>by
  cases h
  have:vs=[]:=List.eq_nil_of_length_eq_zero za4
  subst this
  exact ⟨a,rfl,rfl⟩
 | a,x :: r,lv,h,vs,B,X,hl,hr=>by
  cases vs with
  | nil=>simp at hl
  | cons v vs =>
   unfold maxL at h
   split at h
   ·rename_i h1;cases h1
   ·rename_i k' b r' h1
    cases h1
    have e:=(hr 0 (.int k' b) v zas zas).int_inv
    subst e
    cases mx with
    | true =>
     simp only [cond_true] at h
     obtain ⟨n,h2,h3⟩:=znm h (vs:=vs) (B:=B) (X:=X) za4 (fun i x v h4 h5=>hr (i+1) x v (by simpa using h4) (by simpa using h5))
     refine ⟨n,h2,?_⟩
     simp only [if_true,List.foldlM_cons,Builtin.max2,Sem.run_bind,Sem.run_pure,Result.andThen_ok] at h3 ⊢
     rw [show (if b > a then b else a)=max a b from by omega]
     exact h3
    | false =>
     simp only [cond_false] at h
     obtain ⟨n,h2,h3⟩:=znm h (vs:=vs) (B:=B) (X:=X) za4 (fun i x v h4 h5=>hr (i+1) x v (by simpa using h4) (by simpa using h5))
     refine ⟨n,h2,?_⟩
     simp only [Bool.false_eq_true,if_false,List.foldlM_cons,Builtin.min2,Sem.run_bind,Sem.run_pure,Result.andThen_ok] at h3 ⊢
     rw [show (if b<a then b else a)=min a b from by omega]
     exact h3
   ·cases h

theorem zpq {B : Nat} {X : Nat → Prop} : ∀ {l : List LV} {bs : List Bool}, zsc l = some bs → l.length = bs.length ∧ ∀ (i : Nat) x, l[i]? = some x → ∃ b, bs[i]? = some b ∧ x = .bool b
  | [],bs,h=>by cases h;exact ⟨rfl,fun i x h=>by simp at h⟩
  | x :: r,bs,h=>by
    unfold zsc at h
    split at h
    · rename_i h1;cases h1
    · rename_i b r' h1
      cases h1
      simp only [Option.map_eq_some_iff] at h
      obtain ⟨bs',h2,rfl⟩:=h
      obtain ⟨h3,h4⟩:=zpq (B:=B) (X:=X) h2
      refine ⟨by simp [h3],fun i y hy=>?_⟩
      cases i with
      | zero=>simp at hy;subst hy;exact ⟨b,by simp,rfl⟩
      | succ i=>simpa using h4 i y (by simpa using hy)
    · cases h

theorem zqd : ∀ {l : List LV} {ws : List (List UInt8)}, zvs l = some ws → ∀ (i : Nat), i < l.length → l.getD i .nilS = .str (ws.getD i [])
  | [],ws,h=>by intro i hi;simp at hi
  | x :: r,ws,h=>by
    unfold zvs at h
    split at h
    · rename_i h1;cases h1
    · rename_i b r' h1
      cases h1
      simp only [Option.map_eq_some_iff] at h
      obtain ⟨ws',h2,rfl⟩:=h
      intro i hi
      cases i with
      | zero=>rfl
      | succ i=>simpa using zqd h2 i (by simpa using hi)
    · cases h

theorem z2b (hs : Sat N w0 X0 σ E a w) {T n : Nat} {x : LV} (h : lenL P T σ.blk x = some n) {v : Value} (hx : RepV w w0.heap.size (Own σ E X0) E x v) (ty : TypeId) :
    (Builtin.len_ #[T] ty #[v]).run P w=.ok (.int .i64 (n:Int)) w:=by
 unfold lenL at h
 split at h
 ·rename_i s hu
  cases h
  have e:=hx.str_inv
  subst e
  have hz:(⟨s.toArray⟩:ByteArray).size=s.length:=by show s.toArray.size=s.length;simp
  simp [Builtin.len_,run_underlying hu,goInt,hz]
 ·rename_i e _ _ _ _ hu
  cases h
  have hh:=hx.ro_inv
  cases hh with
  | ro _ _ _ _ A ad cap cv=>simp [Builtin.len_,run_underlying hu,goInt]
 ·rename_i e hu
  cases h
  have e:=hx.nilS_inv
  subst e
  simp [Builtin.len_,run_underlying hu,goInt]
 ·rename_i e id hu
  have e:=hx.own_inv
  subst e
  split at h
  ·rename_i sz m row hb
   cases h
   obtain ⟨hn,hk⟩:=hs.blks id _ hb
   rcases hk with ⟨_,k2,k3⟩ | ⟨b',cap,vs,T',k1,k2,_⟩
   ·rw [k2];subst k3;simp [Builtin.len_,run_underlying hu,goInt]
   ·rw [k2];simp [Builtin.len_,run_underlying hu,goInt]
  ·rename_i cl sz m rows hb
   cases h
   obtain ⟨ek,_,hn,hk⟩:=hs.blks id _ hb
   rcases hk with ⟨_,k2,k3⟩ | ⟨b',cap,vs,T',k1,k2,_⟩
   ·rw [k2];subst k3;simp [Builtin.len_,run_underlying hu,goInt]
   ·rw [k2];simp [Builtin.len_,run_underlying hu,goInt]
  ·cases h
 ·cases h

theorem zqt (hs : Sat N w0 X0 σ E a w) {args : Array Operand} {k : IntKind} {n : Int} {r : List LV} {p : List Prop} (h : evs σ.slot args.toList = some (.int k n :: r, p)) (ha : All p) :
    ∃ vs:List Value,(args.map a.eval).toList=.int k n :: vs∧vs.length=r.length∧∀ (i:Nat) x v,r[i]?=some x→vs[i]?=some v→RepV w w0.heap.size (Own σ E X0) E x v:=by
 obtain ⟨h1,h2⟩:=zg5 hs h ha
 obtain ⟨l⟩:=args
 cases l with
 | nil=>simp at h1
 | cons o l =>
  have e:a.eval o=.int k n:=by
   obtain ⟨x,hx,hr,_⟩:=h2 0 (.int k n) zas
   simp at hx
   subst hx
   exact hr.int_inv
  refine ⟨l.map a.eval,by simp [e],by simpa using h1,fun i x v hx hv=>?_⟩
  obtain ⟨y,hy,hr,_⟩:=h2 (i+1) x (by simpa using hx)
  simp at hy
  simp [hy] at hv
  subst hv
  exact hr

set_option maxHeartbeats 1000000 in
theorem zym (hs:Sat N w0 X0 σ E a w) {o:Oper} {h:Hint} {lv:LV} {p:List Prop} (hv:vop P o σ.slot σ.blk h=some (lv,p)) (ha:All p):VOk P w0 X0 σ E a w o lv:=by
 have noI:∀ (k:IntKind) (n:Int) (id:Nat),Ment (.int k n) id→σ.used id=true:=fun _ _ _ hm=>by cases hm
 have noB:∀ (b:Bool) (id:Nat),Ment (.bool b) id→σ.used id=true:=fun _ _ hm=>by cases hm
 unfold vop at hv
 split at hv
 ·rename_i x ho
  obtain ⟨h1,h2⟩:=zbk hs hv ha
  exact ⟨_,by simp only [execOp,ho,Sem.run_pure],h1,h2⟩
 ·rename_i x ho
  obtain ⟨h1,h2⟩:=zbk hs hv ha
  exact ⟨_,by simp only [execOp,ho,Sem.run_pure],h1,h2⟩
 ·rename_i c x y ho
  split at hv
  ·rename_i bx p1 by' q bz r h1 h2 h3
   cases hv
   exact z1y hs ho h1 h2 h3 ha
  ·cases hv
 ·rename_i T x ho
  split at hv
  ·rename_i id off q h1
   split at hv
   ·rename_i cells hb
    simp only [Option.map_eq_some_iff] at hv
    obtain ⟨v,hl,e⟩:=hv
    cases e
    exact zsn hs ho (zbk hs h1 ha).1 hb hl
   ·cases hv
  ·rename_i row off q h1
   simp only [Option.map_eq_some_iff] at hv
   obtain ⟨v,hl,e⟩:=hv
   cases e
   exact zuc hs ho (zbk hs h1 ha).1 hl
  ·rename_i id sz i off q h1
   split at hv
   ·rename_i sz' n row hb
    cases hz:Nat.beq sz sz' with
    | false=>rw [hz] at hv;cases hv
    | true =>
     rw [hz] at hv
     simp only [cond_true,Option.map_eq_some_iff] at hv
     obtain ⟨v,hl,e⟩:=hv
     cases e
     have:=Nat.eq_of_beq_eq_true hz
     subst this
     exact zud hs ho (zbk hs h1 ha).1 hb hl
   ·cases hv
  ·cases hv
 ·rename_i T x f ho
  split at hv
  ·rename_i id off q k h1 h2
   cases hv
   obtain ⟨g1,g2⟩:=zbk hs h1 ha
   exact (zha hs ho h2 g1 g2).1 id off rfl
  ·rename_i row off q k h1 h2
   cases hv
   obtain ⟨g1,g2⟩:=zbk hs h1 ha
   exact (zha hs ho h2 g1 g2).2.1 row off rfl
  ·rename_i id sz i off q k h1 h2
   cases hv
   obtain ⟨g1,g2⟩:=zbk hs h1 ha
   exact (zha hs ho h2 g1 g2).2.2 id sz i off rfl
  ·cases hv
 ·rename_i T x i ho
  split at hv
  ·rename_i e fr sz n row q k j r hu h1 h2
   cases hz:szOf P e with
   | none=>rw [hz] at hv;cases hv
   | some s =>
    rw [hz] at hv
    cases hzz:Nat.beq s sz with
    | false=>simp [hzz] at hv
    | true =>
     simp only [hzz,cond_true,Option.some.injEq,Prod.mk.injEq] at hv
     obtain ⟨rfl,rfl⟩:=hv
     have:=Nat.eq_of_beq_eq_true hzz
     subst this
     obtain ⟨hab,hc⟩:=All.append.1 ha
     obtain ⟨ha1,ha2⟩:=All.append.1 hab
     exact zso hs ho hu hz (zbk hs h1 ha1).1 (zbk hs h2 ha2).1 hc.1.1 hc.1.2
  ·rename_i e id q k j r hu h1 h2
   split at hv
   ·rename_i sz n row hb
    cases hz:szOf P e with
    | none=>rw [hz] at hv;cases hv
    | some s =>
     rw [hz] at hv
     cases hzz:Nat.beq s sz with
     | false=>simp [hzz] at hv
     | true =>
      simp only [hzz,cond_true,Option.some.injEq,Prod.mk.injEq] at hv
      obtain ⟨rfl,rfl⟩:=hv
      have:=Nat.eq_of_beq_eq_true hzz
      subst this
      obtain ⟨hab,hc⟩:=All.append.1 ha
      obtain ⟨ha1,ha2⟩:=All.append.1 hab
      exact zrg hs ho hu hz (zbk hs h1 ha1).1 hb (zbk hs h2 ha2).1 hc.1.1 hc.1.2
   ·rename_i wd cl sz n rows hb
    cases hz:szOf P e with
    | none=>rw [hz] at hv;cases hv
    | some s =>
     rw [hz] at hv
     cases hzz:Nat.beq s wd with
     | false=>simp [hzz] at hv
     | true =>
      simp only [hzz,cond_true,Option.some.injEq,Prod.mk.injEq] at hv
      obtain ⟨rfl,rfl⟩:=hv
      have:=Nat.eq_of_beq_eq_true hzz
      subst this
      obtain ⟨hab,hc⟩:=All.append.1 ha
      obtain ⟨ha1,ha2⟩:=All.append.1 hab
      exact zpr hs ho hu hz (zbk hs h1 ha1).1 hb (zbk hs h2 ha2).1 hc.1.1 hc.1.2
   ·cases hv
  ·rename_i n e row off q k j r hu h1 h2
   split at hv
   ·rename_i ws hws
    cases hz:szOf P e with
    | none=>rw [hz] at hv;cases hv
    | some s =>
     rw [hz] at hv
     cases hzz:(Nat.beq s 1&&Nat.beq row.length n&&Nat.beq off 0) with
     | false=>simp [hzz] at hv
     | true =>
      simp only [hzz,cond_true,Option.some.injEq,Prod.mk.injEq] at hv
      obtain ⟨rfl,rfl⟩:=hv
      simp only [Bool.and_eq_true] at hzz
      obtain rfl:=Nat.eq_of_beq_eq_true hzz.1.1
      have e1:=Nat.eq_of_beq_eq_true hzz.1.2
      obtain rfl:=Nat.eq_of_beq_eq_true hzz.2
      obtain ⟨hab,hc⟩:=All.append.1 ha
      obtain ⟨ha1,ha2⟩:=All.append.1 hab
      have hg:=zqd hws j.toNat (show j.toNat<row.length by have:=hc.1;omega)
      rw [← hg]
      exact zrh hs ho hu hz e1 (zbk hs h1 ha1).1 (zbk hs h2 ha2).1 hc.1.1 hc.1.2
   ·cases hv
  ·rename_i n e id sz i0 off q k j r hu h1 h2
   split at hv
   ·rename_i sz' m row hb
    cases hz:szOf P e with
    | none=>rw [hz] at hv;cases hv
    | some s =>
     rw [hz] at hv
     cases hzz:(Nat.beq s sz&&Nat.beq sz sz'&&Nat.beq i0 0&&Nat.beq off 0) with
     | false=>simp [hzz] at hv
     | true =>
      simp only [hzz,cond_true,Option.some.injEq,Prod.mk.injEq] at hv
      obtain ⟨rfl,rfl⟩:=hv
      simp only [Bool.and_eq_true] at hzz
      obtain rfl:=Nat.eq_of_beq_eq_true hzz.1.1.1
      obtain rfl:=Nat.eq_of_beq_eq_true hzz.1.1.2
      obtain rfl:=Nat.eq_of_beq_eq_true hzz.1.2
      obtain rfl:=Nat.eq_of_beq_eq_true hzz.2
      obtain ⟨hab,hc⟩:=All.append.1 ha
      obtain ⟨ha1,ha2⟩:=All.append.1 hab
      exact zps hs ho hu hz (zbk hs h1 ha1).1 hb (zbk hs h2 ha2).1 hc.1.1 hc.1.2 hc.2.1
   ·cases hv
  ·cases hv
 ·rename_i T x i ho
  split at hv
  ·rename_i s q k j r hu h1 h2
   cases hv
   obtain ⟨hab,hc⟩:=All.append.1 ha
   obtain ⟨ha1,ha2⟩:=All.append.1 hab
   have e1:=(zbk hs h1 ha1).1.str_inv
   have e2:=(zbk hs h2 ha2).1.int_inv
   refine ⟨.int .u8 ((s.getD j.toNat 0).toNat:Int),?_,.c _ _ (.int _ _),noI _ _⟩
   have hj:j.toNat<s.length:=by have:=hc.1;omega
   have hg:(if 0≤j then (⟨s.toArray⟩:ByteArray)[j.toNat]? else none)=some s[j.toNat]:=by
    rw [if_pos hc.1.1]
    have hj':j.toNat<(⟨s.toArray⟩:ByteArray).size:=by show j.toNat<s.toArray.size;simpa using hj
    rw [getElem?_pos (⟨s.toArray⟩:ByteArray) j.toNat hj']
    rfl
   simp only [execOp,ho,Sem.run_bind,e1,e2,Instr.index,asIntOf,Sem.run_pure,Result.andThen_ok,run_underlying hu,hg]
   simp [List.getD,hj]
  ·rename_i n e l q k j r hu h1 h2
   split at hv
   ·rename_i bs hb hg hz
    cases hn:Nat.beq n bs.length with
    | false=>rw [hn] at hv;cases hv
    | true =>
     rw [hn] at hv
     simp only [cond_true,Option.some.injEq,Prod.mk.injEq] at hv
     obtain ⟨rfl,rfl⟩:=hv
     have hn:=Nat.eq_of_beq_eq_true hn
     obtain ⟨hab,hc⟩:=All.append.1 ha
     obtain ⟨ha1,ha2⟩:=All.append.1 hab
     obtain ⟨vs,e1,hsz,hvs⟩:=(zbk hs h1 ha1).1.agg_inv
     have e2:=(zbk hs h2 ha2).1.int_inv
     obtain ⟨hl,hbs⟩:=zpq (B:=0) (X:=fun _=>False) hb
     have hj:j.toNat<l.length:=by have:=hc.1;omega
     have hj2:j.toNat<vs.size:=by omega
     have hj3:j.toNat<bs.length:=by omega
     obtain ⟨b,hb1,hb2⟩:=hbs j.toNat l[j.toNat] (List.getElem?_eq_getElem hj)
     have hv:=hvs j.toNat l[j.toNat] vs[j.toNat] (List.getElem?_eq_getElem hj) (Array.getElem?_eq_getElem hj2)
     rw [hb2] at hv
     have hv:=hv.bool_inv
     refine ⟨.bool (bs.getD j.toNat false),?_,.c _ _ (.bool _),noB _⟩
     have hd:bs.getD j.toNat false=b:=by simp [List.getD,hb1]
     rw [hd]
     simp only [execOp, ho, Sem.run_bind, e1, e2, Instr.index, asIntOf, Sem.run_pure, Result.andThen_ok, run_underlying hu, if_pos hc.1, zds hz, part, zf5 hg, Nat.mul_one, Bool.false_eq_true, if_false,
       Array.getElem?_eq_getElem hj2,hv]
   ·cases hv
  ·cases hv
 ·rename_i op T x y yT ho
  split at hv
  ·rename_i x' q y' r h1 h2
   split at hv
   ·rename_i v t hb
    cases hv
    obtain ⟨hab,hc⟩:=All.append.1 ha
    obtain ⟨ha1,ha2⟩:=All.append.1 hab
    have r1:=(zbk hs h1 ha1).1
    have r2:=(zbk hs h2 ha2).1
    obtain ⟨u,hu,hr⟩:=z2x (P:=P) hb hc (T:=T) r1 r2
    exact ⟨u,by simp only [execOp,ho,Sem.run_bind,zyh hb r1 r2,Result.andThen_ok,hu,Sem.run_pure],.c _ _ hr,fun id hm=>absurd hm (hr.noMent id)⟩
   ·split at hv
    ·rename_i v hb
     cases hv
     obtain ⟨ha1,ha2⟩:=All.append.1 ha
     have r1:=(zbk hs h1 ha1).1
     have r2:=(zbk hs h2 ha2).1
     obtain ⟨u,hu,hr⟩:=z2z (P:=P) hb r1 r2
     exact ⟨u,by simp only [execOp,ho,Sem.run_bind,zyi hb r1 r2,Result.andThen_ok,hu,Sem.run_pure],.c _ _ hr,fun id hm=>absurd hm (hr.noMent id)⟩
    ·simp only [Option.map_eq_some_iff] at hv
     obtain ⟨v,hb,e⟩:=hv
     cases e
     obtain ⟨ha1,ha2⟩:=All.append.1 ha
     have r1:=(zbk hs h1 ha1).1
     obtain ⟨⟨u,hu,hr⟩,hy,hg⟩:=z2v (P:=P) hb r1
     have ey:=zz4 hy
     subst ey
     have e2:a.eval (.const .nilIface)=.nilIface:=rfl
     exact ⟨u,by simp only [execOp,ho,Sem.run_bind,e2,hg,Result.andThen_ok,hu,Sem.run_pure],.c _ _ hr,fun id hm=>absurd hm (hr.noMent id)⟩
  ·cases hv
 ·rename_i T x ho
  split at hv
  ·rename_i b q h1
   cases hv
   have e:=(zbk hs h1 ha).1.bool_inv
   exact ⟨.bool (!b),by simp only [execOp,ho,Sem.run_bind,e,Op.unary,Sem.run_pure,Result.andThen_ok],.c _ _ (.bool _),noB _⟩
  ·cases hv
 ·rename_i T x ho
  split at hv
  ·rename_i k n q h1
   cases hv
   obtain ⟨ha1,ha2⟩:=All.append.1 ha
   have e:=(zbk hs h1 ha1).1.int_inv
   refine ⟨.int k (-n),?_,.c _ _ (.int _ _),noI _ _⟩
   have hw:k.wrap (0 - n)=-n:=by rw [Int.zero_sub];exact zdx ha2.1
   simp only [execOp,ho,Sem.run_bind,e,Op.unary,Op.intArith,Sem.run_pure,Result.andThen_ok,hw]
  ·cases hv
 ·rename_i x i ho
  split at hv
  ·rename_i l q h1
   simp only [Option.map_eq_some_iff] at hv
   obtain ⟨v,hl,e⟩:=hv
   cases e
   obtain ⟨g1,g2⟩:=zbk hs h1 ha
   obtain ⟨vs,e1,hsz,hvs⟩:=g1.tup_inv
   have hi:i<vs.size:=by
    rw [hsz]
    rcases Nat.lt_or_ge i l.length with h' | h'
    ·exact h'
    ·rw [List.getElem?_eq_none h'] at hl;cases hl
   refine ⟨vs[i],?_,hvs i lv vs[i] hl (Array.getElem?_eq_getElem hi),fun id hm=>g2 id (.tup _ lv id (List.mem_of_getElem? hl) hm)⟩
   simp only [execOp,ho,Sem.run_bind,e1,Instr.extract,Array.getElem?_eq_getElem hi,Sem.run_pure,Result.andThen_ok]
  ·cases hv
 ·rename_i S T x ho
  split at hv
  ·rename_i d k k' n q hS hT h1
   have hrun:∀ q':List Prop,All q'→q'=q→(execOp a.eval o).run P w=.ok (.value (.int k (k.wrap n))) w:=fun q' hq e=>by
    subst e
    have e:=(zbk hs h1 hq).1.int_inv
    simp only [execOp,ho,Sem.run_bind,e,convert,run_underlying hS,run_underlying hT,Result.andThen_ok]
    cases d<;>rfl
   cases hw:zz3 h with
   | true =>
    rw [hw] at hv
    simp only [cond_true,Option.some.injEq,Prod.mk.injEq] at hv
    obtain ⟨rfl,rfl⟩:=hv
    exact ⟨_,hrun _ ha rfl,.c _ _ (.int _ _),noI _ _⟩
   | false =>
    rw [hw] at hv
    simp only [cond_false,Option.some.injEq,Prod.mk.injEq] at hv
    obtain ⟨rfl,rfl⟩:=hv
    obtain ⟨ha1,ha2⟩:=All.append.1 ha
    have:=hrun _ ha1 rfl
    rw [zdx ha2.1] at this
    exact ⟨_,this,.c _ _ (.int _ _),noI _ _⟩
  ·cases hv
 ·rename_i x ho
  split at hv
  ·rename_i id off q h1
   cases hv
   obtain ⟨g1,g2⟩:=zbk hs h1 ha
   obtain ⟨b,k1,k2⟩:=g1.vp_inv
   exact ⟨_,by simp only [execOp,ho,k2,Sem.run_pure],.vp id off b k1,g2⟩
  ·rename_i row off q h1
   cases hv
   obtain ⟨g1,g2⟩:=zbk hs h1 ha
   have hh:=g1.ep_inv
   generalize he:a.eval x=v at hh
   cases hh with
   | ep _ _ ad cv hlt hX hc hr=>exact ⟨_,by simp only [execOp,ho,he,Sem.run_pure],.c _ _ (.ep row off ad cv hlt hX hc hr),g2⟩
  ·rename_i id sz i off q h1
   cases hv
   obtain ⟨g1,g2⟩:=zbk hs h1 ha
   obtain ⟨b,k1,k2,k3⟩:=g1.ap_inv
   exact ⟨_,by simp only [execOp,ho,k3,Sem.run_pure],.ap id sz i off b k1 k2,g2⟩
  ·cases hv
 ·rename_i args argTypes ho
  split at hv
  ·rename_i x T hx hT
   split at hv
   ·rename_i x' q h1
    simp only [Option.map_eq_some_iff] at hv
    obtain ⟨n,hl,e⟩:=hv
    cases e
    have r1:=(zbk hs h1 ha).1
    have e1:args=#[x]:=by cases args;simp_all
    have e2:argTypes=#[T]:=by cases argTypes;simp_all
    subst e1;subst e2
    refine ⟨.int .i64 (n:Int),?_,.c _ _ (.int _ _),noI _ _⟩
    simp only [execOp,ho,Sem.run_bind,resolve,Sem.run_pure,Result.andThen_ok,invoke,builtin,List.map_toArray,List.map_cons,List.map_nil,z2b hs hl r1]
   ·cases hv
  ·cases hv
 ·rename_i args argTypes ho
  split at hv
  ·rename_i k n r q h1
   simp only [Option.map_eq_some_iff] at hv
   obtain ⟨v,hl,e⟩:=hv
   cases e
   obtain ⟨vs,e1,e2,e3⟩:=zqt hs h1 ha
   obtain ⟨m,rfl,hm⟩:=znm (P:=P) (w:=w) hl e2 e3
   refine ⟨.int k m,?_,.c _ _ (.int _ _),noI _ _⟩
   simp only [execOp,ho,Sem.run_bind,resolve,Sem.run_pure,Result.andThen_ok,invoke,builtin,Builtin.max_,e1]
   simp only [if_true] at hm
   rw [hm];rfl
  ·cases hv
 ·rename_i args argTypes ho
  split at hv
  ·rename_i k n r q h1
   simp only [Option.map_eq_some_iff] at hv
   obtain ⟨v,hl,e⟩:=hv
   cases e
   obtain ⟨vs,e1,e2,e3⟩:=zqt hs h1 ha
   obtain ⟨m,rfl,hm⟩:=znm (P:=P) (w:=w) hl e2 e3
   refine ⟨.int k m,?_,.c _ _ (.int _ _),noI _ _⟩
   simp only [execOp,ho,Sem.run_bind,resolve,Sem.run_pure,Result.andThen_ok,invoke,builtin,Builtin.min_,e1]
   simp only [Bool.false_eq_true,if_false] at hm
   rw [hm];rfl
  ·cases hv
 ·cases hv
end vop
end Go.Lite
