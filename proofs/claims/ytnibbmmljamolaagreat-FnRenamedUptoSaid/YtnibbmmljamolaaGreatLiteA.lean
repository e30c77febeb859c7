/- Symbolic values of a heap-free reading of the model, what they stand for, and that what they stand for survives changes of memory elsewhere. Conditions: none; definitions and lemmas over any program. -/
import Derived.WalkKit
namespace Go.Lite
open Go Go.RowKit
theorem zab{p:Prop}(h:p:=by omega):p:=h
theorem vbH{p:Prop}(h:p:=by have h1:i * sz+sz≤cap * sz:=(by rw[←Nat.succ_mul];exact oW sz zab);omega):p:=h
theorem vbI{p:Prop}(h:p:=by obtain⟨vs, e1, e2, e3⟩ := (zao hs hf hp).1.clo_inv; exact⟨vs, e1, e2, e3⟩):p:=h
theorem vbM{p:Prop}(h:p:=by intro b hb;have := hget _ hb (by simp[undef]);simp[yielded, ho, ht, this]):p:=h
theorem vbV{p:Prop}(h:p:=by rw[binOp_shl,shift_shl _ _ _ _ ha.1.1 ha.1.2,zc3 ha.2.1];rfl):p:=h
theorem vbX{p:Prop}(h:p:=by have:k * sz+sz≤m * sz:=(by rw[←Nat.succ_mul];exact oW sz hk);omega):p:=h
theorem vb0{p:Prop}(h:p:=by have:cN wd n≤cN wd cap:=(by rw[cN_eq,cN_eq];exact oW wd k5);omega):p:=h
theorem vb3{p:Prop}(h:p:=by simp only[execOp,ho,oF,he,hi,zpq hu hz h0 h1,oA,oL]):p:=h
theorem vcb{p:Prop}(h:p:=by simp only[ei,oq] at hb';rw[←hb'];exact k1):p:=h
theorem vcd{p:Prop}(h:p:=by rw[←Nat.succ_mul];exact oW sz zab):p:=h
theorem vcm{p:Prop}(h:p:=by rwa [show i+(k+1)=i+1+k by omega]):p:=h
theorem vcp{p:Prop}(h:p:=by simp only[cmp];exact opt_t h1):p:=h
theorem vct{p:Prop}(h:p:=by unfold eqGuard;cases op<;>rfl):p:=h
theorem vcu{p:Prop}(h:p:=by simpa only[zgj] using h):p:=h
theorem vcv{p:Prop}(h:p:=by cases hmm;simp[FS.upd,oneB]):p:=h
theorem vcw{p:Prop}(h:p:=by rw[←hl1];exact(oG.1 hj).1):p:=h
theorem vcz{p:Prop}(h:p:=by rw[zdo];exact hl):p:=h
theorem vcG{p:Prop}(h:p:=by rw[zsu hj]; rfl):p:=h
theorem vcL{p:Prop}(h:p:=by simpa[Frs] using hf):p:=h
theorem vcM{p:Prop}(h:p:=by simp at hfit ⊢;omega):p:=h
theorem vcN{p:Prop}(h:p:=by simp[Env.setF,one]):p:=h
theorem vcO{p:Prop}(h:p:=by unfold maxLen;omega):p:=h
theorem vcR{p:Prop}(h:p:=by rw[hE];exact h1):p:=h
theorem vcU{p:Prop}(h:p:=by rw[e];exact g1):p:=h
theorem vcX{p:Prop}(h:p:=by simpa using hl):p:=h
theorem vcY{p:Prop}(h:p:=by simpa using h1):p:=h
theorem vcZ{p:Prop}(h:p:=by simpa using hj):p:=h
theorem vc0{p:Prop}(h:p:=by simpa using h2):p:=h
theorem vc3{p:Prop}(h:p:=by simpa using h):p:=h
theorem vc5{p:Prop}(h:p:=by rw[hb];simp):p:=h
theorem vc7{p:Prop}(h:p:=by simp[Frs]):p:=h
theorem vc8{p:Prop}(h:p:=by simp;omega):p:=h
theorem vc9{p:Prop}(h:p:=by assumption):p:=h
theorem vdb{p:Prop}(h:p:=by simp at h):p:=h
theorem vdc{p:Prop}(h:p:=by cases hc):p:=h
theorem vdd{p:Prop}(h:p:=by cases hm):p:=h
theorem vde{p:Prop}(h:p:=by rw[hEd]):p:=h
theorem vdf{p:Prop}(h:p:=by cases h):p:=h
theorem vdh{p:Prop}(h:p:=by omega):p:=h
theorem vdi{p:Prop}(h:p:=by grind):p:=h
theorem vdj{p:Prop}(h:p:=by simp):p:=h
theorem oa{p:Prop}{_i:Decidable p}:decide p=false↔¬p:=by first|exact decide_eq_false_iff_not|exact decide_eq_false_iff_not ..
theorem ob{p:Prop}[Decidable p]:(decide p=true)=p:=by first|exact decide_eq_true_eq|exact decide_eq_true_eq ..
theorem oc(a b:Bool):((a&&b)=true)=(a=true∧b=true):=by first|exact Bool.and_eq_true|exact Bool.and_eq_true ..
theorem od(b:Bool):((!b)=true)=(b=false):=by first|exact Bool.not_eq_true'|exact Bool.not_eq_true' ..
theorem oe.{u,v}{α:Sort u}{β:Sort v}{a b:α}(f:α→β)(h:a=b):f a=f b:=congrArg f h
theorem oh.{u}{α:Type u}{as bs:List α}:(as++bs).length=as.length+bs.length:=by first|exact List.length_append|exact List.length_append ..
theorem oi.{u}{α:Type u}{l:List α}{i:Nat}{a:α}:l.getD i a=l[i]?.getD a:=by first|exact List.getD_eq_getElem?_getD|exact List.getD_eq_getElem?_getD ..
theorem oj(a b:Bool):((a||b)=true)=(a=true∨b=true):=by first|exact Bool.or_eq_true|exact Bool.or_eq_true ..
theorem ol.{u}{α:Type u}{l:List α}{i:Nat}(h:i<l.length):l[i]?=some l[i]:=List.getElem?_eq_getElem h
theorem om{p:Prop}[_i:Decidable p]:decide p=true→p:=by first|exact of_decide_eq_true|exact of_decide_eq_true ..
theorem oo{n m:Nat}:Nat.beq n m=true→n=m:=by first|exact Nat.eq_of_beq_eq_true|exact Nat.eq_of_beq_eq_true ..
theorem oq.{u}{α:Type u}(a b:α):(some a=some b)=(a=b):=by first|exact Option.some.injEq|exact Option.some.injEq ..
theorem ou.{u,v}{α:Type v}{b:α}{β:Type u}{x:Option β}{f:β→α}:x.map f=some b↔∃a,x=some a∧f a=b:=by first|exact Option.map_eq_some_iff|exact Option.map_eq_some_iff ..
theorem ow.{u}{α:Type u}{a:α}{as:List α}:(a :: as).length=as.length+1:=by first|exact List.length_cons|exact List.length_cons ..
theorem oz(n:Nat):n≤n:=by first|exact Nat.le_refl|exact Nat.le_refl ..
theorem oA{α β:Type}(a:α)(w:World)(f:α→World→Result β):(Result.ok a w).andThen f=f a w:=by first|exact Result.andThen_ok|exact Result.andThen_ok ..
theorem oB{p:Prop}[_i:Decidable p]:decide p=false→¬p:=by first|exact of_decide_eq_false|exact of_decide_eq_false ..
theorem oC.{u}{α:Type u}:([]:List α).length=0:=by first|exact List.length_nil|exact List.length_nil ..
theorem oD.{u}{α:Sort u}(a b:α):(bif false then a else b)=b:=by first|exact cond_false|exact cond_false ..
theorem oE.{u}{α:Sort u}(a b:α):(bif true then a else b)=a:=by first|exact cond_true|exact cond_true ..
theorem oF{α β:Type}(P:Program)(w:World)(x:Sem α)(f:α→Sem β):(x >>= f).run P w=(x.run P w).andThen fun a w'=>(f a).run P w':=by first|exact Sem.run_bind|exact Sem.run_bind ..
theorem oG.{u}{α:Type u}{i:Nat}{a:α}{l:List α}:l[i]?=some a↔∃h:i<l.length,l[i]=a:=by first|exact List.getElem?_eq_some_iff|exact List.getElem?_eq_some_iff ..
theorem oH(n:Nat):n<Nat.succ n:=by first|exact Nat.lt_succ_self|exact Nat.lt_succ_self ..
theorem oI.{u}{α:Type u}{a:α}:[a].length=1:=by first|exact List.length_singleton|exact List.length_singleton ..
theorem oJ{p:Prop}[Decidable p]:¬p→decide p=false:=by first|exact decide_eq_false|exact decide_eq_false ..
theorem oK.{u}{α:Type u}{i:Nat}{b:α}{xs:Array α}:xs[i]?=some b↔∃h:i<xs.size,xs[i]=b:=by first|exact Array.getElem?_eq_some_iff|exact Array.getElem?_eq_some_iff ..
theorem oL{α:Type}(P:Program)(w:World)(a:α):(pure a:Sem α).run P w=.ok a w:=by first|exact Sem.run_pure|exact Sem.run_pure ..
theorem oM{p:Prop}[_i:Decidable p]:p→decide p=true:=by first|exact decide_eq_true|exact decide_eq_true ..
theorem oN.{u}{α:Type u}{xs:Array α}{i:Nat}(h:i<xs.size):xs[i]?=some xs[i]:=Array.getElem?_eq_getElem h
theorem oO{P:Program}{t:TypeId}{d:TypeDesc}(h:P.underlying t=some d)(w:World):(underlying t).run P w=.ok d w:=run_underlying h w
theorem oP.{u}{α:Type u}{o:Option α}:o≠none↔∃x,o=some x:=by first|exact Option.ne_none_iff_exists'|exact Option.ne_none_iff_exists' ..
theorem oQ(n:Nat):¬n<0:=Nat.not_lt_zero n
theorem oR(n:Nat):¬n<n:=Nat.lt_irrefl n
theorem oS.{u}{α:Type u}{b:α}{l:List α}{a:α}:a∈b :: l↔a=b∨a∈l:=by first|exact List.mem_cons|exact List.mem_cons ..
theorem oT.{u}{α:Type u}{a b:α}:a∈[b]↔a=b:=by first|exact List.mem_singleton|exact List.mem_singleton ..
theorem oU{n m:Nat}(h:Nat.ble n m=true):n≤m:=Nat.le_of_ble_eq_true h
theorem oV:(false=true)=False:=by first|exact Bool.false_eq_true|exact Bool.false_eq_true ..
theorem oW{n m:Nat}(k:Nat)(h:n≤m):n * k≤m * k:=Nat.mul_le_mul_right k h
theorem oX{m n:Nat}:m∈List.range n↔m<n:=by first|exact List.mem_range|exact List.mem_range ..
theorem oY.{u}{α:Type u}{l:List α}{i:Nat}{a:α}(e:l[i]?=some a):a∈l:=List.mem_of_getElem? e
theorem oZ.{u}{α:Type u}{a:α}{l:List α}:a∈l→∃i,∃h:i<l.length,l[i]=a:=by first|exact List.getElem_of_mem|exact List.getElem_of_mem ..
theorem o0(n m:Nat):n<m∨n ≥ m:=by first|exact Nat.lt_or_ge|exact Nat.lt_or_ge ..
theorem o3{n m:Nat}(h:n≤m):Nat.ble n m=true:=Nat.ble_eq_true_of_le h
theorem o4.{u}{α:Type u}{p:α→Bool}{l:List α}:l.all p=true↔∀(x:α),x∈l→p x=true:=by first|exact List.all_eq_true|exact List.all_eq_true ..
theorem o5.{u}{α:Type u}{l₁ l₂:List α}{i:Nat}(hn:i<l₁.length):(l₁++l₂)[i]?=l₁[i]?:=List.getElem?_append_left hn
theorem o6.{u}{α:Type u}{l₁ l₂:List α}{i:Nat}:l₁.length≤i→(l₁++l₂)[i]?=l₂[i - l₁.length]?:=by first|exact List.getElem?_append_right|exact List.getElem?_append_right ..
theorem o7.{u}{α:Type u}{l:List α}{i:Nat}(h:l.length≤i):l[i]?=none:=List.getElem?_eq_none h
theorem o8.{u,v}{α:Type u}{β:Type v}(a:α)(b:β)(c:α)(d:β):((a,b)=(c,d))=(a=c∧b=d):=by first|exact Prod.mk.injEq|exact Prod.mk.injEq ..
theorem o9.{u}{α:Type u}{p:α→Bool}{as:List α}{x:α}:x∈as.filter p↔x∈as∧p x=true:=by first|exact List.mem_filter|exact List.mem_filter ..
theorem Oa.{u}{α:Type u}{a:α}:¬a∈[]:=by first|exact List.not_mem_nil|exact List.not_mem_nil ..
theorem Ob.{u}{α:Type u}{as:List α}{i:Nat}{a:α}:(as.set i a).length=as.length:=by first|exact List.length_set|exact List.length_set ..

inductive KV where
  |s (l:List UInt8)
  |i (n:Int)
  |p (a b:Int)
  deriving DecidableEq
inductive KD where
  |str
  |int (k:IntKind)
  |pair
def KD.key : KD → Value → Option KV
  |.str,.string s=>some (.s s.data.toList)
  |.int k,.int k' n=>bif decide (k=k') then some (.i n) else none
  | .pair, .agg vs => match vs.toList with
    |[.int .i64 a,.int .i64 b]=>some (.p a b)
    |_=>none
  |_,_=>none
inductive MV where
  |b (f:KV→Option Bool)
  |i (f:KV→Option Int)
def MV.val : MV → KV → Option Value
  |.b f,k=>(f k).map Value.bool
  |.i f,k=>(f k).map (Value.int .i64)
def findM(kd : KD) : List MapEntry → KV → Option Value
  |[],_=>none
  |e :: r,k=>if kd.key e.key=some k then some e.val else findM kd r k
def MapOk(kd:KD)(m:MV)(es:Array MapEntry):Prop:=(∀e∈es.toList,(kd.key e.key).isSome=true)∧∀k,findM kd es.toList k=m.val k

inductive LV where
  |int (k:IntKind) (n:Int)
  |bool (b:Bool)
  |str (s:List UInt8)
  |agg (l:List LV)
  |tup (l:List LV)
  |ro (fr:Bool) (sz n:Nat) (row:Nat→List LV)
  |ep (row:List LV) (off:Nat)
  |nilS
  |nilM
  |rm (kd:KD) (m:MV)
  |nilP
  |fn (f:Nat)
  |clo (f:Nat) (l:List LV)
  |vp (id off:Nat)
  |own (id:Nat)
  |ap (id sz i off:Nat)
  |mp (id:Nat)
  |whn (b:Bool) (v:LV)
  |k (b o:Nat)
  |er (b:Bool)
  |fv
  |any
  |ifc (t:Nat) (v:LV)

def isOne : LV → Bool
  |.agg _=>false
  |.tup _=>false
  |.whn _ _=>false
  |_=>true

inductive NR where
  |row (n:Nat) (row:Nat→List LV)
  |out (id:Nat)
  |gone
  |cell (v:LV)

inductive BC where
  |var (cells:List LV)
  |arr (sz n:Nat) (row:Nat→List LV)
  |mp (kd:KD) (m:MV)
  |nest (wd:Nat) (cl:Bool) (sz n:Nat) (rows:Nat→NR)
  |bld (T e:TypeId) (s:List UInt8)
def Mul : Option BC → Prop
  |some (.nest _ _ _ _ _)=>True
  |some (.bld _ _ _)=>True
  |_=>False
theorem znj{o : Option BC}(h : Mul o) : (∃wd cl sz n rows, o = some (.nest wd cl sz n rows)) ∨ ∃T e s, o = some (.bld T e s) := by
 match o,h with
 |some (.nest wd cl sz n rows),_ =>exact .inl ⟨wd,cl,sz,n,rows,rfl⟩
 |some (.bld T e s),_ =>exact .inr ⟨T,e,s,rfl⟩
theorem mul_ne{o : Option BC}(h : Mul o) : o ≠ none := by
 rcases znj h with⟨_,_,_,_,_,rfl⟩ | ⟨_,_,_,rfl⟩
 ·exact Option.some_ne_none _
 exact Option.some_ne_none _

inductive RepC (w : World) (B : Nat) (X : Nat → Prop) : LV → Value → Prop
  |int (k:IntKind) (n:Int):RepC w B X (.int k n) (.int k n)
  |bool (b:Bool):RepC w B X (.bool b) (.bool b)
  |str (s:List UInt8):RepC w B X (.str s) (.string ⟨s.toArray⟩)
  |agg (l:List LV) (vs:Array Value) (hl:vs.size=l.length) (h:∀(i:Nat) lv v,l[i]?=some lv→vs[i]?=some v→RepC w B X lv v):RepC w B X (.agg l) (.agg vs)
  |tup (l:List LV) (vs:Array Value) (hl:vs.size=l.length) (h:∀(i:Nat) lv v,l[i]?=some lv→vs[i]?=some v→RepC w B X lv v):RepC w B X (.tup l) (.tuple vs)
  | ro (fr : Bool) (sz n : Nat) (row : Nat → List LV) (A : Option Addr) (ad : Addr) (cap : Nat) (cv : Nat → Nat → Value) (hcap : n ≤ cap) (hA : 0 < n → A = some ad) (hlt : 0 < n → ad.block < w.heap.size)
      (hX:0<n→¬X ad.block) (hB:0<n→fr=true→B≤ad.block) (hsz:∀i,i<n→(row i).length=sz) (ho:∀i,i<n→∀lv∈row i,isOne lv=true)
      (hc:∀i j,i<n→j<sz→w.cell? (ad.add (i * sz+j))=some (cv i j))
      (h:∀(i j:Nat) lv,i<n→(row i)[j]?=some lv→RepC w B X lv (cv i j)):RepC w B X (.ro fr sz n row) (.slice A n cap)
  | ep (row : List LV) (off : Nat) (ad : Addr) (cv : Nat → Value) (hlt : ad.block < w.heap.size) (hX : ¬ X ad.block) (hc : ∀ j, j < row.length → w.cell? (ad.add j) = some (cv j))
      (h:∀(j:Nat) lv,row[j]?=some lv→RepC w B X lv (cv j)):RepC w B X (.ep row off) (.pointer (some (ad.add off)))
  |nilS:RepC w B X .nilS (.slice none 0 0)
  |nilM:RepC w B X .nilM (.map none)
  |rm (kd:KD) (m:MV) (b:Nat) (es:Array MapEntry) (ck:Nat) (hlt:b<w.heap.size) (hX:¬X b) (hc:w.heap[b]?=some (.map es ck)) (hm:MapOk kd m es):RepC w B X (.rm kd m) (.map (some b))
  |nilP:RepC w B X .nilP (.pointer none)
  |clo (f:Nat) (l:List LV) (vs:Array Value) (hl:vs.size=l.length) (h:∀(i:Nat) lv v,l[i]?=some lv→vs[i]?=some v→RepC w B X lv v):RepC w B X (.clo f l) (.func (.func f) #[] vs)
  |fn (f:Nat):RepC w B X (.fn f) (.func (.func f) #[] #[])
  |k (b o:Nat):RepC w B X (.k b o) (.pointer (some ⟨b,o,none⟩))
  |er (b:Bool) (v:Value) (h0:b=false→v=.nilIface) (h1:b=true→∃t u,v=.iface t u):RepC w B X (.er b) v
  |fv (f:Fn) (cs:Array Value):RepC w B X .fv (.func f #[] cs)
  |fv0:RepC w B X .fv .nilFunc
  |any (A:Option Addr) (n c:Nat):RepC w B X .any (.slice A n c)
  |ifc (t:Nat) (lv:LV) (v:Value) (h:RepC w B X lv v):RepC w B X (.ifc t lv) (.iface t v)

structure EI where
  b:Option Nat
  off:Nat
  A:Option Addr
  vn:Nat
  vc:Nat
  n:Nat
def EI.val(e:EI):Value:=.slice e.A e.vn e.vc

structure Env where
  e:Nat→EI
  s:Nat→Nat→Prop
instance:CoeFun Env fun _=>Nat→EI:=⟨Env.e⟩
inductive Ment : LV → Nat → Prop
  |vp (id off:Nat):Ment (.vp id off) id
  |own (id:Nat):Ment (.own id) id
  |ap (id sz i off:Nat):Ment (.ap id sz i off) id
  |mp (id:Nat):Ment (.mp id) id
  |agg (l:List LV) (lv:LV) (id:Nat) (h:lv∈l) (h':Ment lv id):Ment (.agg l) id
  |tup (l:List LV) (lv:LV) (id:Nat) (h:lv∈l) (h':Ment lv id):Ment (.tup l) id
  |clo (f:Nat) (l:List LV) (lv:LV) (id:Nat) (h:lv∈l) (h':Ment lv id):Ment (.clo f l) id
  |whn (b:Bool) (lv:LV) (id:Nat) (hb:b=true) (h':Ment lv id):Ment (.whn b lv) id
  |ifc (t:Nat) (lv:LV) (id:Nat) (h':Ment lv id):Ment (.ifc t lv) id

inductive RepV (w : World) (B : Nat) (X : Nat → Prop) (E : Env) : LV → Value → Prop
  |c (lv:LV) (v:Value) (h:RepC w B X lv v):RepV w B X E lv v
  |vp (id off b:Nat) (hb:(E id).b=some b):RepV w B X E (.vp id off) (.pointer (some ⟨b,off,none⟩))
  |own (id:Nat):RepV w B X E (.own id) (E id).val
  |ap (id sz i off b:Nat) (hb:(E id).b=some b) (hi:i<(E id).n):RepV w B X E (.ap id sz i off) (.pointer (some ⟨b,(E id).off+i * sz+off,none⟩))
  |mp (id b:Nat) (hb:(E id).b=some b):RepV w B X E (.mp id) (.map (some b))
  |agg (l:List LV) (vs:Array Value) (hl:vs.size=l.length) (h:∀(i:Nat) lv v,l[i]?=some lv→vs[i]?=some v→RepV w B X E lv v):RepV w B X E (.agg l) (.agg vs)
  |tup (l:List LV) (vs:Array Value) (hl:vs.size=l.length) (h:∀(i:Nat) lv v,l[i]?=some lv→vs[i]?=some v→RepV w B X E lv v):RepV w B X E (.tup l) (.tuple vs)
  |clo (f:Nat) (l:List LV) (vs:Array Value) (hl:vs.size=l.length) (h:∀(i:Nat) lv v,l[i]?=some lv→vs[i]?=some v→RepV w B X E lv v):RepV w B X E (.clo f l) (.func (.func f) #[] vs)
  |whn (b:Bool) (lv:LV) (v:Value) (h:b=true→RepV w B X E lv v) (hn:b=false→v=undef):RepV w B X E (.whn b lv) v
  |ifc (t:Nat) (lv:LV) (v:Value) (h:RepV w B X E lv v):RepV w B X E (.ifc t lv) (.iface t v)

theorem zed(a:Addr)(n:Nat):(a.add n).block=a.block:=by unfold Addr.add;split<;>rfl
theorem zmj(a:Addr)(i j:Nat):(a.add i).add j=a.add (i+j):=by unfold Addr.add;by_cases hi:i=0<;>by_cases hj:j=0<;>simp[hi,hj,Nat.add_assoc]
theorem zbv(b o n:Nat):(⟨b,o,none⟩:Addr).add n=⟨b,o+n,none⟩:=by unfold Addr.add;split<;>simp_all

theorem RepC.keep{w w' : World}{B B' : Nat}{X X' : Nat → Prop}{lv : LV}{v : Value}(h : RepC w B X lv v)(hs : w.heap.size ≤ w'.heap.size)(hk : ∀b, b < w.heap.size → ¬X b → w'.heap[b]? = w.heap[b]?)(hx : ∀b, X' b → X b ∨ w.heap.size ≤ b)(hB : B' ≤ B) : RepC w' B' X' lv v := by
 induction h with
 |int k n =>exact .int k n
 |bool b =>exact .bool b
 |str s =>exact .str s
 |agg l vs hl _ ih =>exact .agg l vs hl ih
 |tup l vs hl _ ih =>exact .tup l vs hl ih
 |ro fr sz n row A ad cap cv hcap hA hlt hX hb hsz ho hc _ ih =>
  refine .ro fr sz n row A ad cap cv hcap hA (fun h0=>Nat.lt_of_lt_of_le (hlt h0) hs) (fun h0 hxx=>?_) (fun h0 hf=>Nat.le_trans hB (hb h0 hf)) hsz ho (fun i j hi hj=>?_) ih
  ·grind
  have h0:0<n:=vdh
  rw[World.cell?_of_block (w:=w) (by rw[zed];exact hk _ (hlt h0) (hX h0))];grind
 |ep row off ad cv hlt hX hc _ ih =>
  refine .ep row off ad cv (Nat.lt_of_lt_of_le hlt hs) (fun hxx=>?_) (fun j hj=>?_) ih
  ·grind
  rw[World.cell?_of_block (w:=w) (by rw[zed];exact hk _ hlt hX)];exact hc j hj
 |nilS =>exact .nilS
 |nilM =>exact .nilM
 |rm kd m b es ck hlt hX hc hm =>exact .rm kd m b es ck (Nat.lt_of_lt_of_le hlt hs) (fun h=>(hx _ h).elim hX fun h1=>vdh) (by rw[hk _ hlt hX];exact hc) hm
 |nilP =>exact .nilP
 |clo f l vs hl _ ih =>exact .clo f l vs hl ih
 |fn f =>exact .fn f
 |k b o =>exact .k b o
 |er b v h0 h1 =>exact .er b v h0 h1
 |fv f cs =>exact .fv f cs
 |fv0 =>exact .fv0
 |any A n c =>exact .any A n c
 |ifc t lv v _ ih =>exact .ifc t lv v ih

theorem RepC.noMent{w : World}{B : Nat}{X : Nat → Prop}{lv : LV}{v : Value}(h : RepC w B X lv v) : ∀id, ¬Ment lv id := by
 induction h with
 |agg l vs hl _ ih =>
  intro id hm;cases hm with
  |agg _ lv _ hlv hm' =>obtain⟨i,hi,e⟩:=oZ hlv;have hv:vs[i]?=some (vs[i]' vdh):=oN vdh;grind
 |tup l vs hl _ ih =>
  intro id hm;cases hm with
  |tup _ lv _ hlv hm' =>obtain⟨i,hi,e⟩:=oZ hlv;have hv:vs[i]?=some (vs[i]' vdh):=oN vdh;grind
 |clo f l vs hl _ ih =>
  intro id hm;cases hm with
  |clo _ _ lv _ hlv hm' =>obtain⟨i,hi,e⟩:=oZ hlv;have hv:vs[i]?=some (vs[i]' vdh):=oN vdh;grind
 |ifc t lv v _ ih =>intro id hm;cases hm with|ifc _ _ _ h=>exact ih id h
 |_ =>intro id hm;cases hm

theorem RepV.keep{w w' : World}{B : Nat}{X X' : Nat → Prop}{E E' : Env}{lv : LV}{v : Value}(h : RepV w B X E lv v)(hs : w.heap.size ≤ w'.heap.size)(hk : ∀b, b < w.heap.size → ¬X b → w'.heap[b]? = w.heap[b]?)(hx : ∀b, X' b → X b ∨ w.heap.size ≤ b)(hE : ∀id, Ment lv id → E' id = E id) : RepV w' B X' E' lv v := by
 induction h with
 |c lv v h =>exact .c _ _ (h.keep hs hk hx (oz _))
 |vp id off b hb =>exact .vp id off b (by rw[hE id (.vp id off)];exact hb)
 |own id =>rw[←hE id (.own id)];exact .own id
 | ap id sz i off b hb hi =>have he:=hE id (.ap id sz i off);rw[←he] at hb hi ⊢;exact .ap id sz i off b hb hi
 |mp id b hb =>exact .mp id b (by rw[hE id (.mp id)];exact hb)
 |agg l vs hl _ ih =>exact .agg l vs hl fun i lv v h1 h2=>ih i lv v h1 h2 fun id hm=>hE id (.agg l lv id (oY h1) hm)
 |tup l vs hl _ ih =>exact .tup l vs hl fun i lv v h1 h2=>ih i lv v h1 h2 fun id hm=>hE id (.tup l lv id (oY h1) hm)
 |clo f l vs hl _ ih =>exact .clo f l vs hl fun i lv v h1 h2=>ih i lv v h1 h2 fun id hm=>hE id (.clo f l lv id (oY h1) hm)
 |whn b lv v _ hn ih =>exact .whn b lv v (fun hb=>ih hb fun id hm=>hE id (.whn b lv id hb hm)) hn
 |ifc t lv v _ ih =>exact .ifc t lv v (ih fun id hm=>hE id (.ifc t lv id hm))

structure FS where
  slot:Nat→Option LV
  blk:Nat→Option BC
  used:Nat→Bool

structure Fr where
  blk:Nat→Option Obj
  own:Nat→Prop
  pin:Nat→Option EI
  low:∀i,i<900000→pin i=none
  sz:Nat

def OwnAt(blk:Nat→Option BC)(E:Env)(i b:Nat):Prop:=(blk i≠none∧(E i).b=some b)∨(Mul (blk i)∧E.s i b)
def Own(σ:FS)(E:Env)(X0:Fr):Nat→Prop:=fun b=>X0.own b∨∃i,OwnAt σ.blk E i b
theorem OwnAt.ne{blk : Nat → Option BC}{E : Env}{i b : Nat}(h : OwnAt blk E i b) : blk i ≠ none := by
 rcases h with h | h
 ·exact h.1
 exact mul_ne h.1

def ArrOk(w : World)(B : Nat)(X : Nat → Prop)(e : EI)(sz n : Nat)(row : Nat → List LV) : Prop :=
  e.n = n ∧
      ((e.b = none ∧ e.val = .slice none 0 0 ∧ n = 0) ∨
       ∃ b cap vs T, e.b = some b ∧ e.val = .slice (some ⟨b, e.off, none⟩) n cap ∧ B ≤ b ∧ w.heap[b]? = some (.cells vs T (0, 0)) ∧ n ≤ cap ∧ cap ≤ maxLen ∧ e.off + cap * sz ≤ vs.size ∧
         ∀k,k<n→(row k).length=sz∧(∀lv∈row k,isOne lv=true)∧∀(j:Nat) lv v,(row k)[j]?=some lv→vs[e.off+k * sz+j]?=some v→RepC w B X lv v)
def NROk(w : World)(B : Nat)(X : Nat → Prop)(E : Env)(sz : Nat)(ek : EI)(v : Value) : NR → Prop
  |.row n row=>v=ek.val∧ArrOk w B X ek sz n row
  |.out id=>v=(E id).val
  |.gone=>∃A n c,v=.slice A n c
  |.cell lv=>isOne lv=true∧RepC w B X lv v
def cN(wd n : Nat) : Nat := match wd with
  |1=>n
  |wd=>n * wd
theorem cN_eq(wd n : Nat) : cN wd n = n * wd := by
 unfold cN;split
 ·omega
 rfl
theorem zsy(wd:Nat):cN wd 0=0:=by rw[cN_eq,Nat.zero_mul]
def NR.isRow : NR → Prop
  |.row _ _=>True
  |_=>False
structure SubOk(c : Bool)(s : Nat → Prop)(eb : Option Nat)(n : Nat)(rows : Nat → NR)(ek : Nat → EI) : Prop where
  iff:∀b,s b↔∃k,k<n∧(rows k).isRow∧(ek k).b=some b
  inj:∀k k' b,k<n→k'<n→(rows k).isRow→(rows k').isRow→(ek k).b=some b→(ek k').b=some b→k=k'
  ne:∀k b,k<n→(rows k).isRow→(ek k).b=some b→eb≠some b
  cl:c=true→∀k id,k<n→rows k≠.out id

def bytesV(s:List UInt8):List Value:=s.map fun c=>Value.int .u8 c.toNat
def BufAt(w : World)(B : Nat)(T e : TypeId)(b : Nat)(v p : Value)(s : List UInt8) : Prop :=
  B≤b∧w.heap[b]?=some (.cells #[p,v] T (0,0))∧(p=.pointer none∨p=.pointer (some ⟨b,0,none⟩))∧w.ownsRow B e 1 v s.length (bytesV s)∧v.ownBlock≠some b
theorem BufAt.lt{w:World}{B:Nat}{T e:TypeId}{b:Nat}{v p:Value}{s:List UInt8}(h:BufAt w B T e b v p s):b<w.heap.size:=(oK.1 h.2.1).1
theorem BufAt.keep{w w' : World}{B B' : Nat}{T e : TypeId}{b : Nat}{v p : Value}{s : List UInt8}(h : BufAt w B T e b v p s)(hb : w'.heap[b]? = w.heap[b]?)(hg : ∀g, v.ownBlock = some g → w'.heap[g]? = w.heap[g]?)(hB : B' ≤ B) : BufAt w' B' T e b v p s := by
 obtain⟨h1,h2,h3,⟨h4,h5⟩,h6⟩:=h;refine⟨Nat.le_trans hB h1,by rw[hb];exact h2,h3,⟨h4,?_⟩,h6⟩;rcases h5 with h5 | ⟨g,cap,cur,rfl,k1,k2,k3⟩
 ·grind
 exact .inr ⟨g,cap,cur,rfl,Nat.le_trans hB k1,by rw[hg g rfl];exact k2,k3⟩
theorem BufAt.sub{w:World}{B:Nat}{T e:TypeId}{b:Nat}{v p:Value}{s:List UInt8}(h:BufAt w B T e b v p s){g:Nat}(hg:v.ownBlock=some g):g<w.heap.size∧B≤g∧g≠b:=⟨(h.2.2.2.1.lt g hg).2,(h.2.2.2.1.lt g hg).1,fun e=>h.2.2.2.2 (by rw[hg,e])⟩
def BlkOk(w : World)(B : Nat)(X : Nat → Prop)(E : Env)(i : Nat) : BC → Prop
  |.bld T e s=>∃b v p,(E i).b=some b∧BufAt w B T e b v p s∧∀g,E.s i g↔v.ownBlock=some g
  |.var cells=>∃b vs T,(E i).b=some b∧B≤b∧w.heap[b]?=some (.cells vs T (0,0))∧vs.size=cells.length∧∀(j:Nat) lv v,cells[j]?=some lv→vs[j]?=some v→RepV w B X E lv v
  |.mp kd m=>∃b es ck,(E i).b=some b∧B≤b∧w.heap[b]?=some (.map es ck)∧MapOk kd m es
  | .arr sz n row => (E i).n = n ∧
      (((E i).b = none ∧ (E i).val = .slice none 0 0 ∧ n = 0) ∨
       ∃ b cap vs T, (E i).b = some b ∧ (E i).val = .slice (some ⟨b, (E i).off, none⟩) n cap ∧ B ≤ b ∧ w.heap[b]? = some (.cells vs T (0, 0)) ∧ n ≤ cap ∧ cap ≤ maxLen ∧ (E i).off + cap * sz ≤ vs.size ∧
         ∀k,k<n→(row k).length=sz∧(∀lv∈row k,isOne lv=true)∧∀(j:Nat) lv v,(row k)[j]?=some lv→vs[(E i).off+k * sz+j]?=some v→RepC w B X lv v)
  | .nest wd cl sz n rows => ∃ ek : Nat → EI, SubOk cl (E.s i) (E i).b (cN wd n) rows ek ∧ (E i).n = n ∧
      (((E i).b = none ∧ (E i).val = .slice none 0 0 ∧ n = 0) ∨
       ∃ b cap vs T, (E i).b = some b ∧ (E i).val = .slice (some ⟨b, (E i).off, none⟩) n cap ∧ B ≤ b ∧ w.heap[b]? = some (.cells vs T (0, 0)) ∧ n ≤ cap ∧ cap ≤ maxLen ∧ (E i).off + cN wd cap ≤ vs.size ∧
         ∀k,k<cN wd n→NROk w B X E sz (ek k) (vs.getD ((E i).off+k) undef) (rows k))

def GH(_:World):Prop:=True
theorem GH.below{w w':World}(_:GH w)(_:Below w.heap.size w w'):GH w':=trivial
def gRow(_:Nat):Option (List LV):=none
theorem GH.row{w:World}(_:GH w){g:Nat}{row:List LV}(h:gRow g=some row):g<w.heap.size∧∃cv:Nat→Value,(∀j,j<row.length→w.cell? ⟨g,j,none⟩=some (cv j))∧∀(w':World) (B:Nat) (X:Nat→Prop) (j:Nat) lv,row[j]?=some lv→RepC w' B X lv (cv j):=vdf
structure Sat(N : Nat)(w0 : World)(X0 : Fr)(σ : FS)(E : Env)(a : Act)(w : World) : Prop where
  size:a.tmps.size=N
  defers:a.defers=[]
  below:Below w0.heap.size w0 w
  slots:∀t lv,σ.slot t=some lv→RepV w w0.heap.size (Own σ E X0) E lv (a.tmps.getD t undef)
  blks:∀i c,σ.blk i=some c→BlkOk w w0.heap.size (Own σ E X0) E i c
  injA:∀i j b,OwnAt σ.blk E i b→OwnAt σ.blk E j b→i=j
  live:∀i,σ.blk i≠none→σ.used i=true
  wfs:∀t lv id,σ.slot t=some lv→Ment lv id→σ.used id=true
  wfb:∀i cells lv id,σ.blk i=some (.var cells)→lv∈cells→Ment lv id→σ.used id=true
  wfn:∀i wd cl sz n rows k id,σ.blk i=some (.nest wd cl sz n rows)→k<cN wd n→rows k=.out id→σ.used id=true
  baseA:∀b o,X0.blk b=some o→w.heap[b]?=some o∧∀i,¬OwnAt σ.blk E i b
  bown:∀b,X0.own b→∃o,X0.blk b=some o
  pin:∀i ei,X0.pin i=some ei→σ.blk i≠none→E i=ei
  pu:∀i,900000≤i→σ.used i=true
  szf:X0.sz≤w.heap.size
  gh:GH w0
  xge:∀b,X0.own b→w0.heap.size≤b

theorem Sat.inj{N:Nat}{w0:World}{X0:Fr}{σ:FS}{E:Env}{a:Act}{w:World}(h:Sat N w0 X0 σ E a w):∀i j b,σ.blk i≠none→σ.blk j≠none→(E i).b=some b→(E j).b=some b→i=j:=fun i j b hi hj hib hjb=>h.injA i j b (.inl ⟨hi,hib⟩) (.inl ⟨hj,hjb⟩)
theorem Sat.base{N:Nat}{w0:World}{X0:Fr}{σ:FS}{E:Env}{a:Act}{w:World}(h:Sat N w0 X0 σ E a w):∀b o,X0.blk b=some o→w.heap[b]?=some o∧∀i,σ.blk i≠none→(E i).b≠some b:=fun b o hb=>⟨(h.baseA b o hb).1,fun i hi hib=>(h.baseA b o hb).2 i (.inl ⟨hi,hib⟩)⟩

def FS.put(σ:FS)(d:Nat)(lv:LV):FS:={ σ with slot:=fun t=>if t=d then some lv else σ.slot t }
def FS.setF(σ : FS)(K : Nat → Bool)(U : Nat → Option (BC × EI)) : FS :=
  { σ with blk:=fun j=>match U j with | some x=>some x.1 | none=>if K j=true then none else σ.blk j,used:=fun j=>(U j).isSome||σ.used j }
def Env.setFS(E:Env)(U:Nat→Option (BC×EI))(S:Nat→Nat→Prop):Env:=⟨fun j=>match U j with | some x=>x.2 | none=>E j,fun j=>match U j with | some _=>S j | none=>E.s j⟩
def Env.setF(E:Env)(U:Nat→Option (BC×EI)):Env:=⟨fun j=>match U j with | some x=>x.2 | none=>E j,fun j=>match U j with | some _=>fun _=>False | none=>E.s j⟩

theorem Sat.put{N : Nat}{w0 : World}{X0 : Fr}{σ : FS}{E : Env}{a : Act}{w : World}(h : Sat N w0 X0 σ E a w){d : Nat}(hd : d < N){lv : LV}{v : Value}
    (hr:RepV w w0.heap.size (Own σ E X0) E lv v) (hm:∀id,Ment lv id→σ.used id=true):Sat N w0 X0 (σ.put d lv) E (a.put (some d) v) w where
  size:=by simpa[Act.put] using h.size
  defers:=h.defers
  below:=h.below
  slots := by
    intro t x hx
    simp only[FS.put] at hx
    by_cases ht:t=d
    · subst ht
      simp only[if_true,oq] at hx
      subst hx
      have hs:t<a.tmps.size:=by rw[h.size];exact hd
      have e:(a.put (some t) v).tmps.getD t undef=v:=by simp[Act.put,hs]
      rw[e];exact hr
    · simp only [ht] at hx
      have e : (a.put (some d) v).tmps.getD t undef = a.tmps.getD t undef := by
        simp[Act.put,Array.getElem?_setIfInBounds_ne (Ne.symm ht)]
      rw[e];exact h.slots t x hx
  blks:=h.blks
  injA:=h.injA
  live:=h.live
  wfs := by
    intro t x id hx hmm
    simp only[FS.put] at hx
    by_cases ht:t=d
    · simp only [ht,if_true,oq] at hx;subst hx;exact hm id hmm
    · simp only [ht] at hx;exact h.wfs t x id hx hmm
  wfb:=h.wfb
  wfn:=h.wfn
  baseA:=h.baseA
  bown:=h.bown
  pin:=h.pin
  pu:=h.pu
  szf:=h.szf
  gh:=h.gh
  xge:=h.xge

theorem BlkOk.lt{w : World}{B : Nat}{X : Nat → Prop}{E : Env}{i b : Nat}{c : BC}(h : BlkOk w B X E i c)(hb : (E i).b = some b) : b < w.heap.size := by
 cases c with
 |bld T e s =>obtain⟨b',v,p,g1,g2,_⟩:=h;rw[hb] at g1;injection g1 with g1;subst g1;exact g2.lt
 |var cells =>obtain⟨b',vs,T,g1,_,g3,_⟩:=h;rw[hb] at g1;injection g1 with g1;subst g1;exact(oK.1 g3).1
 |mp kd m =>obtain⟨b',es,ck,g1,_,g3,_⟩:=h;rw[hb] at g1;injection g1 with g1;subst g1;exact(oK.1 g3).1
 |nest wd cl sz n rows =>obtain⟨_,_,_,h⟩:=h;grind
 |arr sz n row =>
  rcases h.2 with⟨g1,_⟩ | ⟨b',cap,vs,T,g1,_,_,g4,_⟩
  ·grind
  grind

theorem ArrOk.lt{w : World}{B : Nat}{X : Nat → Prop}{e : EI}{sz n b : Nat}{row : Nat → List LV}(h : ArrOk w B X e sz n row)(hb : e.b = some b) : b < w.heap.size ∧ B ≤ b := by
 rcases h.2 with⟨g1,_⟩ | ⟨b',cap,vs,T,g1,_,g3,g4,_⟩
 ·grind
 grind
theorem ArrOk.keep{w w' : World}{B B' : Nat}{X X' : Nat → Prop}{e : EI}{sz n : Nat}{row : Nat → List LV}(h : ArrOk w B X e sz n row)(hs : w.heap.size ≤ w'.heap.size)(hb : ∀b, e.b = some b → w'.heap[b]? = w.heap[b]?)(hk : ∀b, b < w.heap.size → ¬X b → w'.heap[b]? = w.heap[b]?)(hx : ∀b, X' b → X b ∨ w.heap.size ≤ b)(hB : B' ≤ B) : ArrOk w' B' X' e sz n row := by
 refine⟨h.1,?_⟩;rcases h.2 with h1 | ⟨b,cap,vs,T,h1,h2,h3,h4,h5,h6,h7,h8⟩
 ·grind
 exact .inr ⟨b,cap,vs,T,h1,h2,Nat.le_trans hB h3,by rw[hb b h1];exact h4,h5,h6,h7,fun k hk'=>⟨(h8 k hk').1,(h8 k hk').2.1,fun m lv v hl hv=>((h8 k hk').2.2 m lv v hl hv).keep hs hk hx hB⟩⟩
theorem BlkOk.nestSub{w : World}{B : Nat}{X : Nat → Prop}{E : Env}{i b wd sz n : Nat}{cl : Bool}{rows : Nat → NR}(h : BlkOk w B X E i (.nest wd cl sz n rows))(hb : E.s i b) : b < w.heap.size ∧ B ≤ b ∧ (E i).b ≠ some b := by
 obtain⟨ek,hs,_,h⟩:=h;obtain⟨k,hk,hr,hkb⟩:=(hs.iff b).1 hb;refine⟨?_,?_,hs.ne k b hk hr hkb⟩<;>rcases h with⟨_,_,h0⟩ | ⟨b',cap,vs,T,_,_,_,_,_,_,_,g8⟩
 ·rw [h0, zsy] at hk; omega
 ·have := g8 k hk;cases hrk : rows k with
  |row m r =>rw[hrk] at this;exact(this.2.lt hkb).1
  |out id =>rw[hrk] at hr;exact hr.elim
  |gone =>rw[hrk] at hr;exact hr.elim
  |cell v =>rw[hrk] at hr;exact hr.elim
 ·rw [h0, zsy] at hk; omega
 have:=g8 k hk;cases hrk:rows k with
 |row m r =>rw[hrk] at this;exact(this.2.lt hkb).2
 |out id =>rw[hrk] at hr;exact hr.elim
 |gone =>rw[hrk] at hr;exact hr.elim
 |cell v =>rw[hrk] at hr;exact hr.elim
theorem BlkOk.bldSub{w:World}{B:Nat}{X:Nat→Prop}{E:Env}{i b:Nat}{T e:TypeId}{s:List UInt8}(h:BlkOk w B X E i (.bld T e s))(hb:E.s i b):b<w.heap.size∧B≤b∧(E i).b≠some b:=by obtain⟨b',v,p,h1,h2,h3⟩:=h;have:=h2.sub ((h3 b).1 hb);grind
theorem NROk.keep{w w' : World}{B B' : Nat}{X X' : Nat → Prop}{E E' : Env}{sz : Nat}{ek : EI}{v : Value}{r : NR}(h : NROk w B X E sz ek v r)(hs : w.heap.size ≤ w'.heap.size)(hb : r.isRow → ∀b, ek.b = some b → w'.heap[b]? = w.heap[b]?)(hk : ∀b, b < w.heap.size → ¬X b → w'.heap[b]? = w.heap[b]?)(hx : ∀b, X' b → X b ∨ w.heap.size ≤ b)(hB : B' ≤ B)(hE : ∀id, r = .out id → E' id = E id) : NROk w' B' X' E' sz ek v r := by
 cases r with
 |row n row =>exact⟨h.1,h.2.keep hs (hb trivial) hk hx hB⟩
 |out id =>show v=(E' id).val;rw[hE id rfl];exact h
 |gone =>exact h
 |cell lv =>exact⟨h.1,h.2.keep hs hk hx hB⟩
theorem Sat.olt{N : Nat}{w0 : World}{X0 : Fr}{σ : FS}{E : Env}{a : Act}{w : World}(h : Sat N w0 X0 σ E a w){k b : Nat}(hk : OwnAt σ.blk E k b) : b < w.heap.size := by
 rcases hk with⟨hk,hb⟩ | ⟨hk,hb⟩
 ·obtain ⟨c, hc⟩ := oP.1 hk;exact (h.blks k c hc).lt hb
 rcases znj hk with⟨wd,cl,sz,n,rows,hc⟩ | ⟨T,e,s,hc⟩
 ·exact ((h.blks k _ hc).nestSub hb).1
 exact((h.blks k _ hc).bldSub hb).1

theorem Sat.setFS{N : Nat}{w0 : World}{X0 : Fr}{σ : FS}{E : Env}{a : Act}{w w' : World}(h : Sat N w0 X0 σ E a w)(K : Nat → Bool)(U : Nat → Option (BC × EI))(S : Nat → Nat → Prop)(hu : ∀i x, U i = some x → σ.used i = false ∨ (x.2 = E i ∧ σ.blk i ≠ none))(hs : w.heap.size ≤ w'.heap.size)(hw : ∀b, b < w.heap.size → (∀j, (U j ≠ none ∨ K j = true) → ¬OwnAt σ.blk E j b) → w'.heap[b]? = w.heap[b]?)(hown : ∀i x b, U i = some x → (x.2.b = some b ∨ (Mul (some x.1) ∧ S i b)) → w.heap.size ≤ b ∨ ∃j, (U j ≠ none ∨ K j = true) ∧ OwnAt σ.blk E j b)(huu : ∀i j x y b, U i = some x → U j = some y → (x.2.b = some b ∨ (Mul (some x.1) ∧ S i b)) → (y.2.b = some b ∨ (Mul (some y.1) ∧ S j b)) → i = j)(hbelow : Below w0.heap.size w0 w')(hwf : ∀i cells ei lv id, U i = some (.var cells, ei) → lv ∈ cells → Ment lv id → U id ≠ none ∨ σ.used id = true)(hwn : ∀i wd cl sz n rows ei k id, U i = some (.nest wd cl sz n rows, ei) → k < cN wd n → rows k = .out id → U id ≠ none ∨ σ.used id = true)(hok : ∀i x, U i = some x → BlkOk w' w0.heap.size (Own (σ.setF K U) (E.setFS U S) X0) (E.setFS U S) i x.1) : Sat N w0 X0 (σ.setF K U) (E.setFS U S) a w' := by
 have hE:∀id,σ.used id=true→(E.setFS U S) id=E id:=by intro id hid;show(match U id with | some x=>x.2 | none=>E id)=E id;grind
 have hlive:∀j,(σ.setF K U).blk j≠none→(∃x,U j=some x)∨(U j=none∧K j=false∧σ.blk j≠none):=by intro j hj;simp only[FS.setF] at hj;grind
 have hEU:∀j x,U j=some x→(E.setFS U S) j=x.2:=fun j x hU=>by simp[Env.setFS,hU]
 have hSU:∀j x,U j=some x→(E.setFS U S).s j=S j:=fun j x hU=>by simp[Env.setFS,hU]
 have hSN:∀j,U j=none→(E.setFS U S).s j=E.s j:=fun j hU=>by simp[Env.setFS,hU]
 have hbU:∀j x,U j=some x→(σ.setF K U).blk j=some x.1:=fun j x hU=>by simp[FS.setF,hU]
 have hbN:∀j,U j=none→K j=false→(σ.setF K U).blk j=σ.blk j:=fun j hU hK=>by simp[FS.setF,hU,hK]
 have hat : ∀j b, OwnAt (σ.setF K U).blk (E.setFS U S) j b → (∃x, U j = some x ∧ (x.2.b = some b ∨ (Mul (some x.1) ∧ S j b))) ∨ (U j = none ∧ K j = false ∧ OwnAt σ.blk E j b) := by
  intro j b hb;rcases hlive j hb.ne with⟨x,hU⟩ | ⟨hU,hK,h1⟩
  ·refine .inl ⟨x, hU, ?_⟩;rcases hb with ⟨_, hb⟩ | ⟨hm, hb⟩
   ·rw [hEU j x hU] at hb; exact .inl hb
   grind
  refine .inr ⟨hU,hK,?_⟩;rcases hb with⟨_,hb⟩ | ⟨hm,hb⟩
  ·rw [hE j (h.live j h1)] at hb; exact .inl ⟨h1, hb⟩
  rw[hSN j hU] at hb;rw[hbN j hU hK] at hm;exact .inr ⟨hm,hb⟩
 have hx : ∀b, Own (σ.setF K U) (E.setFS U S) X0 b → Own σ E X0 b ∨ w.heap.size ≤ b := by
  intro b hb;rcases hb with hb | ⟨j,hj⟩
  ·exact .inl (.inl hb)
  rcases hat j b hj with⟨x,hU,h1⟩ | ⟨_,_,h1⟩
  ·rcases hown j x b hU h1 with h2 | ⟨k, _, h2⟩
   ·exact .inr h2
   exact .inl (.inr ⟨k,h2⟩)
  exact .inl (.inr ⟨j,h1⟩)
 have hk:∀b,b<w.heap.size→¬Own σ E X0 b→w'.heap[b]?=w.heap[b]?:=by intro b hb hno;exact hw b hb fun j _ hj=>hno (.inr ⟨j,hj⟩)
 refine⟨h.size,h.defers,hbelow,?_,?_,?_,?_,?_,?_,?_,?_,h.bown,?_,fun i hi=>by simp[FS.setF,h.pu i hi],Nat.le_trans h.szf hs,h.gh,h.xge⟩
 ·intro t lv ht;exact (h.slots t lv ht).keep hs hk hx fun id hm => hE id (h.wfs t lv id ht hm)
 ·intro j c' hj;cases hU : U j with
  |some x =>have:c'=x.1:=(by simp only[FS.setF,hU,oq] at hj;exact hj.symm);subst this;exact hok j x hU
  |none =>
   have hj' : σ.blk j = some c' ∧ K j = false := by
    simp only[FS.setF,hU] at hj;cases hK:K j with
    |true =>simp[hK] at hj
    |false =>simp only[hK,oV,if_false] at hj;exact⟨hj,rfl⟩
   have hne : σ.blk j ≠ none := (by rw[hj'.1]; simp);have hEj := hE j (h.live j hne);have hb := h.blks j c' hj'.1;have keepo : ∀b, OwnAt σ.blk E j b → w'.heap[b]? = w.heap[b]? := by
    intro b hjb;refine hw b (h.olt hjb) fun k hk' hkb=>?_;have:=h.injA k j b hkb hjb;subst this;rcases hk' with h1 | h1
    ·exact h1 hU
    rw[hj'.2] at h1;cases h1
   have keepb:∀b,(E j).b=some b→b<w.heap.size→w'.heap[b]?=w.heap[b]?:=fun b hjb _=>keepo b (.inl ⟨hne,hjb⟩);cases c' with
   |bld T e s =>obtain⟨b,v,p,h1,h2,h3⟩:=hb;have hmul:Mul (σ.blk j):=(by rw[hj'.1];trivial);refine⟨b,v,p,by rw[hEj];exact h1,h2.keep (keepb b h1 h2.lt) (fun g hg=>keepo g (.inr ⟨hmul,(h3 g).2 hg⟩)) (oz _),?_⟩;rw[hSN j hU];exact h3
   |var cells =>
    obtain⟨b,vs,T,h1,h2,h3,h4,h5⟩:=hb;have hlt':b<w.heap.size:=(oK.1 h3).1;refine⟨b,vs,T,?_,h2,by rw[keepb b h1 hlt'];exact h3,h4,fun m lv v hl hv=>?_⟩
    ·rw [hEj]; exact h1
    exact(h5 m lv v hl hv).keep hs hk hx fun id hm=>hE id (h.wfb j cells lv id hj'.1 (oY hl) hm)
   |mp kd m =>obtain⟨b,es,ck,h1,h2,h3,h4⟩:=hb;have hlt':b<w.heap.size:=(oK.1 h3).1;exact⟨b,es,ck,by rw[hEj];exact h1,h2,by rw[keepb b h1 hlt'];exact h3,h4⟩
   |arr sz n row =>
    obtain⟨hn,hb⟩:=hb;refine⟨by rw[hEj];exact hn,?_⟩;rw[hEj];rcases hb with hb | ⟨b,cap,vs,T,h1,h2,h3,h4,h5,h6,h7,h8⟩
    ·exact .inl hb
    have hlt':b<w.heap.size:=(oK.1 h4).1;refine .inr ⟨b,cap,vs,T,h1,h2,h3,by rw[keepb b h1 hlt'];exact h4,h5,h6,h7,fun k hk'=>⟨(h8 k hk').1,(h8 k hk').2.1,fun m lv v hl hv=>?_⟩⟩;exact((h8 k hk').2.2 m lv v hl hv).keep hs hk hx (oz _)
   |nest wd cl sz n rows =>
    obtain⟨ek,hsub,hn,hb⟩:=hb;have hmul:Mul (σ.blk j):=(by rw[hj'.1];trivial);refine⟨ek,?_,by rw[hEj];exact hn,?_⟩
    ·rw [hSN j hU, hEj]; exact hsub
    rw[hEj];rcases hb with hb | ⟨b,cap,vs,T,h1,h2,h3,h4,h5,h6,h7,h8⟩
    ·exact .inl hb
    have hlt':b<w.heap.size:=(oK.1 h4).1;refine .inr ⟨b,cap,vs,T,h1,h2,h3,by rw[keepb b h1 hlt'];exact h4,h5,h6,h7,fun k hk'=>?_⟩;exact(h8 k hk').keep hs (fun hr b' hb'=>keepo b' (.inr ⟨hmul,(hsub.iff b').2 ⟨k,hk',hr,hb'⟩⟩)) hk hx (oz _) fun id hid=>hE id (h.wfn j wd cl sz n rows k id hj'.1 hk' hid)
 ·intro j k b hj hk';rcases hat j b hj with ⟨x, hU, h1⟩ | ⟨hU, hK, h1⟩ <;> rcases hat k b hk' with ⟨y, hV, h2⟩ | ⟨hV, hK', h2⟩
  ·exact huu j k x y b hU hV h1 h2
  ·rcases hown j x b hU h1 with h3 | ⟨m, hm, h4⟩
   ·have := h.olt h2; omega
   have:=h.injA m k b h4 h2;subst this;rcases hm with h6 | h6
   ·exact absurd hV h6
   rw[hK'] at h6;cases h6
  ·rcases hown k y b hV h2 with h3 | ⟨m, hm, h4⟩
   ·have := h.olt h1; omega
   have:=h.injA m j b h4 h1;subst this;rcases hm with h6 | h6
   ·exact absurd hU h6
   rw[hK] at h6;cases h6
  exact h.injA j k b h1 h2
 ·intro j hj;rcases hlive j hj with ⟨x, hU⟩ | ⟨_, _, h1⟩
  ·simp [FS.setF, hU]
  simp[FS.setF,h.live j h1]
 ·intro t lv id ht hm;simp [FS.setF, h.wfs t lv id ht hm]
 ·intro j cells lv id hj hl hm;cases hU : U j with
  |some x =>
   obtain⟨c,ei⟩:=x;simp only[FS.setF,hU,oq] at hj;subst hj;rcases hwf j cells ei lv id hU hl hm with h1 | h1
   ·obtain ⟨y, hy⟩ := oP.1 h1;simp [FS.setF, hy]
   simp[FS.setF,h1]
  |none =>
   have hj' : σ.blk j = some (.var cells) := by
    simp only[FS.setF,hU] at hj;cases hK:K j with
    |true =>simp[hK] at hj
    |false =>simpa only[hK,oV,if_false] using hj
   simp[FS.setF,h.wfb j cells lv id hj' hl hm]
 ·intro j wd cl sz n rows k id hj hk' hr;cases hU : U j with
  |some x =>
   obtain⟨c,ei⟩:=x;simp only[FS.setF,hU,oq] at hj;subst hj;rcases hwn j wd cl sz n rows ei k id hU hk' hr with h1 | h1
   ·obtain ⟨y, hy⟩ := oP.1 h1;simp [FS.setF, hy]
   simp[FS.setF,h1]
  |none =>
   have hj' : σ.blk j = some (.nest wd cl sz n rows) := by
    simp only[FS.setF,hU] at hj;cases hK:K j with
    |true =>simp[hK] at hj
    |false =>simpa only[hK,oV,if_false] using hj
   simp[FS.setF,h.wfn j wd cl sz n rows k id hj' hk' hr]
 ·intro b o hb;obtain ⟨h1, h2⟩ := h.baseA b o hb;have hbl : b < w.heap.size := (oK.1 h1).1;refine ⟨by rw [hw b hbl fun j _ hj => h2 j hj]; exact h1, fun i hi => ?_⟩;rcases hat i b hi with ⟨x, hU, h3⟩ | ⟨_, _, h3⟩
  ·rcases hown i x b hU h3 with h4 | ⟨k, _, h4⟩
   ·omega
   exact h2 k h4
  exact h2 i h3
 intro i ei hi hb;have h9 : 900000 ≤ i := by
  rcases o0 i 900000 with h | h
  ·rw [X0.low i h] at hi; cases hi
  exact h
 rw[hE i (h.pu i h9)];rcases hlive i hb with⟨x,hU⟩ | ⟨_,_,h3⟩
 ·rcases hu i x hU with h4 | ⟨_, h4⟩
  ·rw [h.pu i h9] at h4; cases h4
  exact h.pin i ei hi h4
 exact h.pin i ei hi h3

theorem Sat.setF{N : Nat}{w0 : World}{X0 : Fr}{σ : FS}{E : Env}{a : Act}{w w' : World}(h : Sat N w0 X0 σ E a w)(K : Nat → Bool)(U : Nat → Option (BC × EI))(hu : ∀i x, U i = some x → σ.used i = false ∨ (x.2 = E i ∧ σ.blk i ≠ none))(hs : w.heap.size ≤ w'.heap.size)(hw : ∀b, b < w.heap.size → (∀j, (U j ≠ none ∨ K j = true) → σ.blk j ≠ none → (E j).b ≠ some b) → w'.heap[b]? = w.heap[b]?)(hown : ∀i x b, U i = some x → x.2.b = some b → w.heap.size ≤ b ∨ ∃j, (U j ≠ none ∨ K j = true) ∧ σ.blk j ≠ none ∧ (E j).b = some b)(huu : ∀i j x y b, U i = some x → U j = some y → x.2.b = some b → y.2.b = some b → i = j)(hbelow : Below w0.heap.size w0 w')(hwf : ∀i cells ei lv id, U i = some (.var cells, ei) → lv ∈ cells → Ment lv id → U id ≠ none ∨ σ.used id = true)(hnm : ∀i x, U i = some x → ¬Mul (some x.1))(hok : ∀i x, U i = some x → BlkOk w' w0.heap.size (Own (σ.setF K U) (E.setF U) X0) (E.setF U) i x.1) : Sat N w0 X0 (σ.setF K U) (E.setF U) a w' := by
 refine h.setFS K U (fun _ _=>False) hu hs (fun b hb hh=>hw b hb fun j hj hn he=>hh j hj (.inl ⟨hn,he⟩)) ?_ ?_ hbelow hwf (fun i wd cl sz n rows ei k id hU=>absurd trivial (hnm i _ hU)) hok
 ·intro i x b hU hb;rcases hb with hb | ⟨hm, _⟩
  ·rcases hown i x b hU hb with h1 | ⟨j, h1, h2, h3⟩
   ·grind
   exact .inr ⟨j,h1,.inl ⟨h2,h3⟩⟩
  grind
 grind

theorem Sat.xlt{N:Nat}{w0:World}{X0:Fr}{σ:FS}{E:Env}{a:Act}{w:World}(h:Sat N w0 X0 σ E a w){b:Nat}(hb:X0.own b):b<w.heap.size:=by obtain⟨o,ho⟩:=h.bown b hb;exact(oK.1 (h.base b o ho).1).1
theorem Sat.xneA{N:Nat}{w0:World}{X0:Fr}{σ:FS}{E:Env}{a:Act}{w:World}(h:Sat N w0 X0 σ E a w){b:Nat}(hb:X0.own b){i:Nat}:¬OwnAt σ.blk E i b:=by obtain⟨o,ho⟩:=h.bown b hb;exact(h.baseA b o ho).2 i
theorem Sat.xne{N:Nat}{w0:World}{X0:Fr}{σ:FS}{E:Env}{a:Act}{w:World}(h:Sat N w0 X0 σ E a w){b:Nat}(hb:X0.own b){i:Nat}(hi:σ.blk i≠none):(E i).b≠some b:=by obtain⟨o,ho⟩:=h.bown b hb;exact(h.base b o ho).2 i hi
def one(i:Nat)(c:BC)(ei:EI):Nat→Option (BC×EI):=fun j=>if j=i then some (c,ei) else none
theorem zdk{i j:Nat}{c:BC}{ei:EI}{x:BC×EI}(h:one i c ei j=some x):j=i∧x=(c,ei):=by unfold one at h;grind
theorem one_ne{i j:Nat}{c:BC}{ei:EI}:one i c ei j≠none↔j=i:=by unfold one;by_cases e:j=i<;>simp[e]

theorem z0j{c:List LV}:¬Mul (some (.var c)):=fun h=>h
theorem zgi{sz n:Nat}{row:Nat→List LV}:¬Mul (some (.arr sz n row)):=fun h=>h
theorem zu9{σ : FS}{E : Env}{X0 : Fr}{K : Nat → Bool}{i : Nat}{c : BC}{ei : EI}(hc : ¬Mul (some c)){b : Nat}(h : Own (σ.setF K (one i c ei)) (E.setF (one i c ei)) X0 b) : Own σ E X0 b ∨ ei.b = some b := by
 rcases h with h | ⟨k,hk⟩
 ·exact .inl (.inl h)
 by_cases e:k=i
 ·subst e;rcases hk with ⟨_, hk⟩ | ⟨hm, _⟩
  ·exact .inr (by simpa [Env.setF, one] using hk)
  exact absurd (by simpa[FS.setF,one] using hm) hc
 have hb:(σ.setF K (one i c ei)).blk k=if K k=true then none else σ.blk k:=by simp[FS.setF,one,e]
 have hE:(E.setF (one i c ei)) k=E k:=by simp[Env.setF,one,e]
 have hS:(E.setF (one i c ei)).s k=E.s k:=by simp[Env.setF,one,e]
 cases hK:K k with
 |true =>rw[hK] at hb;exact absurd hb hk.ne
 |false =>
  rw[hK] at hb;refine .inl (.inr ⟨k,?_⟩);rcases hk with⟨h1,h2⟩ | ⟨h1,h2⟩
  ·rw [hb] at h1; rw [hE] at h2; exact .inl ⟨h1, h2⟩
  rw[hb] at h1;rw[hS] at h2;exact .inr ⟨h1,h2⟩

theorem Sat.set{N : Nat}{w0 : World}{X0 : Fr}{σ : FS}{E : Env}{a : Act}{w w' : World}(h : Sat N w0 X0 σ E a w)(K : Nat → Bool)(i : Nat)(c : BC)(ei : EI)
    (hi:σ.used i=false∨(ei=E i∧σ.blk i≠none))
    (hs:w.heap.size≤w'.heap.size)
    (hw:∀b,b<w.heap.size→(∀j,(j=i∨K j=true)→σ.blk j≠none→(E j).b≠some b)→w'.heap[b]?=w.heap[b]?)
    (hown:∀b,ei.b=some b→w.heap.size≤b∨∃j,(j=i∨K j=true)∧σ.blk j≠none∧(E j).b=some b)
    (hbelow:Below w0.heap.size w0 w')
    (hwf:∀cells lv id,c=.var cells→lv∈cells→Ment lv id→id=i∨σ.used id=true)
    (hok:BlkOk w' w0.heap.size (Own (σ.setF K (one i c ei)) (E.setF (one i c ei)) X0) (E.setF (one i c ei)) i c) (hnm:¬Mul (some c):=by exact fun h=>h) :
    Sat N w0 X0 (σ.setF K (one i c ei)) (E.setF (one i c ei)) a w':=by
  refine h.setF K (one i c ei) ?_ hs ?_ ?_ ?_ hbelow ?_ (fun j x hj=>by obtain⟨rfl,rfl⟩:=zdk hj;exact hnm) ?_
  · intro j x hj
    obtain⟨rfl,rfl⟩:=zdk hj
    exact hi
  · intro b hb hh
    exact hw b hb fun j hj=>hh j (hj.imp one_ne.2 id)
  · intro j x b hj hb
    obtain⟨rfl,rfl⟩:=zdk hj
    grind
  · intro j k x y b hj hk _ _
    exact(zdk hj).1.trans (zdk hk).1.symm
  · intro j cells ei' lv id hj hl hm
    obtain⟨rfl,e⟩:=zdk hj
    grind
  · intro j x hj
    obtain⟨rfl,rfl⟩:=zdk hj
    exact hok

theorem Sat.grow{N : Nat}{w0 : World}{X0 : Fr}{σ : FS}{E : Env}{a : Act}{w w' : World}(h : Sat N w0 X0 σ E a w)(hb : Below w.heap.size w w') : Sat N w0 X0 σ E a w' := by
 have hsz:w0.heap.size≤w.heap.size:=h.below.size;have hk:∀b,b<w.heap.size→¬Own σ E X0 b→w'.heap[b]?=w.heap[b]?:=fun b hlt _=>hb.block b hlt;refine⟨h.size,h.defers,h.below.trans (hb.mono hsz),fun t lv ht=>(h.slots t lv ht).keep hb.size hk (fun b hx=>.inl hx) (fun _ _=>rfl),?_,h.injA,h.live,h.wfs,h.wfb,h.wfn,fun b o hb'=>⟨by rw[hb.block b (oK.1 (h.baseA b o hb').1).1];exact(h.baseA b o hb').1,(h.baseA b o hb').2⟩,h.bown,h.pin,h.pu,Nat.le_trans h.szf hb.size,h.gh,h.xge⟩;intro i c hi;have hbk:=h.blks i c hi;cases c with
 |bld T e s =>have hmul:Mul (σ.blk i):=(by rw[hi];trivial);obtain⟨b,v,p,h1,h2,h3⟩:=hbk;exact⟨b,v,p,h1,h2.keep (hb.block b h2.lt) (fun g hg=>hb.block g (h.olt (.inr ⟨hmul,(h3 g).2 hg⟩))) (oz _),h3⟩
 |var cells =>obtain⟨b,vs,T,h1,h2,h3,h4,h5⟩:=hbk;have hlt:b<w.heap.size:=(oK.1 h3).1;exact⟨b,vs,T,h1,h2,by rw[hb.block b hlt];exact h3,h4,fun m lv v hl hv=>(h5 m lv v hl hv).keep hb.size hk (fun b hx=>.inl hx) (fun _ _=>rfl)⟩
 |mp kd m =>obtain⟨b,es,ck,h1,h2,h3,h4⟩:=hbk;have hlt:b<w.heap.size:=(oK.1 h3).1;exact⟨b,es,ck,h1,h2,by rw[hb.block b hlt];exact h3,h4⟩
 |arr sz n row =>
  obtain⟨hn,hbk⟩:=hbk;refine⟨hn,?_⟩;rcases hbk with hbk | ⟨b,cap,vs,T,h1,h2,h3,h4,h5,h6,h7,h8⟩
  ·grind
  have hlt:b<w.heap.size:=(oK.1 h4).1;exact .inr ⟨b,cap,vs,T,h1,h2,h3,by rw[hb.block b hlt];exact h4,h5,h6,h7,fun k hk'=>⟨(h8 k hk').1,(h8 k hk').2.1,fun m lv v hl hv=>((h8 k hk').2.2 m lv v hl hv).keep hb.size hk (fun b hx=>.inl hx) (oz _)⟩⟩
 |nest wd cl sz n rows =>
  obtain⟨ek,hsub,hn,hbk2⟩:=hbk;have hmul:Mul (σ.blk i):=by rw[hi];trivial
  refine⟨ek,hsub,hn,?_⟩;rcases hbk2 with hbk | ⟨b,cap,vs,T,h1,h2,h3,h4,h5,h6,h7,h8⟩
  ·exact .inl hbk
  have hlt:b<w.heap.size:=(oK.1 h4).1;exact .inr ⟨b,cap,vs,T,h1,h2,h3,by rw[hb.block b hlt];exact h4,h5,h6,h7,fun k hk'=>(h8 k hk').keep hb.size (fun hr b' hb'=>hb.block b' (h.olt (.inr ⟨hmul,(hsub.iff b').2 ⟨k,hk',hr,hb'⟩⟩))) hk (fun b hx=>.inl hx) (oz _) fun _ _=>rfl⟩

def FS.upd(σ : FS)(K : Nat → Bool)(ub : Nat → Option BC) : FS :=
  { σ with blk:=fun j=>match ub j with | some c=>some c | none=>if K j=true then none else σ.blk j,used:=fun j=>(ub j).isSome||σ.used j }
theorem FS.setF_eq (σ : FS) (K : Nat → Bool) (U : Nat → Option (BC × EI)) : σ.setF K U = σ.upd K fun j => (U j).map (·.1) := by unfold FS.setF FS.upd;grind
def oneB(i:Nat)(c:BC):Nat→Option BC:=fun j=>if j=i then some c else none
theorem zca (i : Nat) (c : BC) (ei : EI) : (fun j => (one i c ei j).map (·.1)) = oneB i c := by funext j; unfold one oneB; by_cases e : j = i <;> simp [e]
def noK:Nat→Bool:=fun _=>false

theorem zgu{σ:FS}{E:Env}{X0:Fr}{K:Nat→Bool}{i:Nat}{c:BC}{ei:EI}(hc:¬Mul (some c)){b:Nat}(h:Own (σ.upd K (oneB i c)) (E.setF (one i c ei)) X0 b):Own σ E X0 b∨ei.b=some b:=by rw[←zca i c ei,←FS.setF_eq] at h;exact zu9 hc h
section new
variable {N:Nat} {w0:World} {X0:Fr} {σ:FS} {E:Env} {a:Act} {w:World}
theorem Sat.newVar(h : Sat N w0 X0 σ E a w){i : Nat}(hi : σ.used i = false)(vs : Array Value)(T : TypeId)(cells : List LV)(hl : vs.size = cells.length)(hr : ∀(j : Nat) lv v, cells[j]? = some lv → vs[j]? = some v → RepV w w0.heap.size (Own σ E X0) E lv v)(hm : ∀lv ∈ cells, ∀id, Ment lv id → σ.used id = true) : ∃E', (E' i).b = some w.heap.size ∧ Sat N w0 X0 (σ.upd noK (oneB i (.var cells))) E' a (w.alloc (.cells vs T)) := by
 have hh:∀b,b<w.heap.size→(w.alloc (.cells vs T)).heap[b]?=w.heap[b]?:=fun b hb=>Below.heap_alloc _ _ _ hb;refine⟨E.setF (one i (.var cells) ⟨some w.heap.size,0,none,0,0,0⟩),vcN,?_⟩;rw[←zca i (.var cells) ⟨some w.heap.size,0,none,0,0,0⟩,←FS.setF_eq];refine h.set noK i (.var cells) _ (.inl hi) vdj (fun b hb _=>hh b hb) (fun b hb=>.inl (by simp at hb;omega)) (h.below.alloc h.below.size _) (fun c lv id hc hlv hmm=>?_) ?_
 ·grind
 refine⟨w.heap.size,vs,T,vcN,h.below.size,heap_alloc_new w _,hl,fun j lv v hj hv=>?_⟩;refine(hr j lv v hj hv).keep vdj (fun b hb _=>hh b hb) (fun b hb=>?_) fun id hmm=>?_
 ·rcases zu9 z0j hb with hb | hb
  ·grind
  grind
 have hu:=hm lv (oY hj) id hmm;have e:id≠i:=vdi
 simp[Env.setF,one,e]

theorem Sat.newArr(h : Sat N w0 X0 σ E a w){i : Nat}(hi : σ.used i = false)(vs : Array Value)(T : TypeId)(sz n cap : Nat)(row : Nat → List LV)(hn : n ≤ cap)(hcap : cap ≤ maxLen)(hl : cap * sz ≤ vs.size)(hsz : ∀k, k < n → (row k).length = sz)(ho : ∀k, k < n → ∀lv ∈ row k, isOne lv = true)(hr : ∀k, k < n → ∀(j : Nat) lv v, (row k)[j]? = some lv → vs[k * sz + j]? = some v → RepC w w0.heap.size (Own σ E X0) lv v) : ∃E', (E' i).b = some w.heap.size ∧ (E' i).val = .slice (some ⟨w.heap.size, 0, none⟩) n cap ∧ Sat N w0 X0 (σ.upd noK (oneB i (.arr sz n row))) E' a (w.alloc (.cells vs T)) := by
 have hh:∀b,b<w.heap.size→(w.alloc (.cells vs T)).heap[b]?=w.heap[b]?:=fun b hb=>Below.heap_alloc _ _ _ hb;refine⟨E.setF (one i (.arr sz n row) ⟨some w.heap.size,0,some ⟨w.heap.size,0,none⟩,n,cap,n⟩),vcN,by simp[Env.setF,one,EI.val],?_⟩;rw[←zca i (.arr sz n row) ⟨some w.heap.size,0,some ⟨w.heap.size,0,none⟩,n,cap,n⟩,←FS.setF_eq];refine h.set noK i (.arr sz n row) _ (.inl hi) vdj (fun b hb _=>hh b hb) (fun b hb=>.inl (by simp at hb;omega)) (h.below.alloc h.below.size _) (fun c lv id hc hlv hmm=>?_) ?_
 ·cases hc
 refine⟨vcN,.inr ⟨w.heap.size,cap,vs,T,vcN,by simp[Env.setF,one,EI.val],h.below.size,heap_alloc_new w _,hn,hcap,by simpa[Env.setF,one] using hl,fun k hk=>⟨hsz k hk,ho k hk,fun j lv v hj hv=>?_⟩⟩⟩;have hv':vs[k * sz+j]?=some v:=by simpa[Env.setF,one] using hv
 refine(hr k hk j lv v hj hv').keep vdj (fun b hb _=>hh b hb) (fun b hb=>?_) (oz _);rcases zu9 zgi hb with hb | hb
 ·grind
 grind

theorem Sat.newMap(h:Sat N w0 X0 σ E a w){i:Nat}(hi:σ.used i=false)(kd:KD)(m:MV)(es:Array MapEntry)(ck:Nat)(hm:MapOk kd m es):∃E',(E' i).b=some w.heap.size∧Sat N w0 X0 (σ.upd noK (oneB i (.mp kd m))) E' a (w.alloc (.map es ck)):=by have hh:∀b,b<w.heap.size→(w.alloc (.map es ck)).heap[b]?=w.heap[b]?:=fun b hb=>Below.heap_alloc _ _ _ hb;refine⟨E.setF (one i (.mp kd m) ⟨some w.heap.size,0,none,0,0,0⟩),vcN,?_⟩;rw[←zca i (.mp kd m) ⟨some w.heap.size,0,none,0,0,0⟩,←FS.setF_eq];refine h.set noK i (.mp kd m) _ (.inl hi) vdj (fun b hb _=>hh b hb) (fun b hb=>.inl (by simp at hb;omega)) (h.below.alloc h.below.size _) (fun c lv id hc hlv hmm=>vdc) ?_;exact⟨w.heap.size,es,ck,vcN,h.below.size,heap_alloc_new w _,hm⟩
end new
section weak
variable {N:Nat} {w0:World} {X0:Fr} {σ:FS} {E:Env} {a:Act} {w:World}
theorem BlkOk.sub{B : Nat}{X X' : Nat → Prop}{i : Nat}{c : BC}(h : BlkOk w B X E i c)(hx : ∀b, X' b → X b) : BlkOk w B X' E i c := by
 cases c with
 |bld T e s =>exact h
 |var cells =>obtain⟨b,vs,T,h1,h2,h3,h4,h5⟩:=h;exact⟨b,vs,T,h1,h2,h3,h4,fun j lv v hl hv=>(h5 j lv v hl hv).keep (oz _) (fun _ _ _=>rfl) (fun b hb=>.inl (hx b hb)) fun _ _=>rfl⟩
 |mp kd m =>exact h
 |nest wd cl sz n rows =>
  obtain⟨ek,h1,h2,h3⟩:=h;refine⟨ek,h1,h2,?_⟩;rcases h3 with h1 | ⟨b,cap,vs,T,h1,h2,h3,h4,h5,h6,h7,h8⟩
  ·grind
  exact .inr ⟨b,cap,vs,T,h1,h2,h3,h4,h5,h6,h7,fun k hk=>(h8 k hk).keep (oz _) (fun _ _ _=>rfl) (fun _ _ _=>rfl) (fun b hb=>.inl (hx b hb)) (oz _) fun _ _=>rfl⟩
 |arr sz n row =>
  refine⟨h.1,?_⟩;rcases h.2 with h1 | ⟨b,cap,vs,T,h1,h2,h3,h4,h5,h6,h7,h8⟩
  ·exact .inl h1
  exact .inr ⟨b,cap,vs,T,h1,h2,h3,h4,h5,h6,h7,fun k hk=>⟨(h8 k hk).1,(h8 k hk).2.1,fun j lv v hl hv=>((h8 k hk).2.2 j lv v hl hv).keep (oz _) (fun _ _ _=>rfl) (fun b hb=>.inl (hx b hb)) (oz _)⟩⟩

theorem OwnAt.sub{f g : Nat → Option BC}{E : Env}(hb : ∀i c, f i = some c → g i = some c){i b : Nat}(h : OwnAt f E i b) : OwnAt g E i b := by
 obtain⟨c,hc⟩:=oP.1 h.ne;have e:=hb i c hc;rcases h with⟨_,h⟩ | ⟨hm,h⟩
 ·exact .inl ⟨by rw [e]; simp, h⟩
 rw[hc] at hm;exact .inr ⟨by rw[e];exact hm,h⟩
theorem Own.sub{σ' : FS}(hb : ∀i c, σ'.blk i = some c → σ.blk i = some c) : ∀b, Own σ' E X0 b → Own σ E X0 b := by
 intro b h;rcases h with h | ⟨i,hi⟩
 ·exact .inl h
 exact .inr ⟨i,hi.sub hb⟩

theorem Sat.weaken(h : Sat N w0 X0 σ E a w)(σ' : FS)(hs : ∀t lv, σ'.slot t = some lv → σ.slot t = some lv)(hb : ∀i c, σ'.blk i = some c → σ.blk i = some c)
    (hu:∀i,σ.used i=true→σ'.used i=true):Sat N w0 X0 σ' E a w where
  size:=h.size
  defers:=h.defers
  below:=h.below
  slots:=fun t lv ht=>(h.slots t lv (hs t lv ht)).keep (oz _) (fun _ _ _=>rfl) (fun b hx=>.inl (Own.sub hb b hx)) fun _ _=>rfl
  blks:=fun i c hi=>(h.blks i c (hb i c hi)).sub (Own.sub hb)
  injA:=fun i j b hi hj=>h.injA i j b (hi.sub hb) (hj.sub hb)
  live := fun i hi => by
    obtain⟨c,hc⟩:=oP.1 hi
    exact hu i (h.live i (by rw[hb i c hc];simp))
  wfs:=fun t lv id ht hm=>hu id (h.wfs t lv id (hs t lv ht) hm)
  wfb:=fun i cells lv id hi hl hm=>hu id (h.wfb i cells lv id (hb i _ hi) hl hm)
  wfn:=fun i wd cl sz n rows k id hi hk hr=>hu id (h.wfn i wd cl sz n rows k id (hb i _ hi) hk hr)
  baseA:=fun b o hb'=>⟨(h.baseA b o hb').1,fun i hi=>(h.baseA b o hb').2 i (hi.sub hb)⟩
  bown:=h.bown
  pin := fun i ei hp hi => by
    obtain⟨c,hc⟩:=oP.1 hi
    exact h.pin i ei hp (by rw[hb i c hc];simp)
  pu:=fun i hi=>hu i (h.pu i hi)
  szf:=h.szf
  gh:=h.gh
  xge:=h.xge
end weak
end Go.Lite
