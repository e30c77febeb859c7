/- Symbolic values of a heap-free reading of the model, what they stand for, and that what they stand for survives changes of memory elsewhere. Conditions: none; definitions and lemmas over any program. -/
import Derived.WalkKit
import Derived.MapKept
namespace Go.Lite
open Go Go.RowKit
open _root_.Nat renaming succ_mul→Yc, lt_of_lt_of_le→Y4, le_trans→yM
open _root_.Option renaming some→YN
open _root_.List renaming range→yI
open Go.Value renaming int→yX
open Go.World renaming cell?_of_block→YV
theorem vaJ{p:Prop}(h:p:=by have h1:i * sz+sz≤cap * sz:=(by rw[←Nat.succ_mul];exact oU sz (by omega));omega):p:=h
theorem vaL{p:Prop}(h:p:=by obtain⟨vs, e1, e2, e3⟩ := (zae hs hf hp).1.clo_inv; exact⟨vs, e1, e2, e3⟩):p:=h
theorem vaQ{p:Prop}(h:p:=by intro b hb;have := hget _ hb (by simp[undef]);simp[yielded, ho, ht, this]):p:=h
theorem vaX{p:Prop}(h:p:=by rw[binOp_shl,shift_shl _ _ _ _ ha.1.1 ha.1.2,zbn ha.2.1];rfl):p:=h
theorem vaY{p:Prop}(h:p:=by have:k * sz+sz≤m * sz:=(by rw[←Nat.succ_mul];exact oU sz hk);omega):p:=h
theorem vaZ{p:Prop}(h:p:=by have:cN wd n≤cN wd cap:=(by rw[cN_eq,cN_eq];exact oU wd k5);omega):p:=h
theorem va0{p:Prop}(h:p:=by simp only[execOp,ho,oD,he,hi,zk0 hu hz h0 h1,ow,oJ]):p:=h
theorem va6{p:Prop}(h:p:=by simp only[ei,oo] at hb';rw[←hb'];exact k1):p:=h
theorem va7{p:Prop}(h:p:=by rw[←Nat.succ_mul];exact oU sz (by omega)):p:=h
theorem va9{p:Prop}(h:p:=by rw[←Nat.succ_mul];exact oU sz hk):p:=h
theorem vba{p:Prop}(h:p:=by rwa [show i+(k+1)=i+1+k by omega]):p:=h
theorem vbb{p:Prop}(h:p:=by obtain⟨_,_,_,_⟩:=c;exact⟨h,h2⟩):p:=h
theorem vbd{p:Prop}(h:p:=by simp only[cmp];exact opt_t h1):p:=h
theorem vbg{p:Prop}(h:p:=by unfold eqGuard;cases op<;>rfl):p:=h
theorem vbh{p:Prop}(h:p:=by simpa only[zdw] using h):p:=h
theorem vbi{p:Prop}(h:p:=by cases hmm;simp[FS.upd,oneB]):p:=h
theorem vbj{p:Prop}(h:p:=by rw[←hl1];exact(oE.1 hj).1):p:=h
theorem vbn{p:Prop}(h:p:=by rw[zb1];exact hl):p:=h
theorem vbq{p:Prop}(h:p:=by rw[zm8 hj]; rfl):p:=h
theorem vbt{p:Prop}(h:p:=by simpa[Frs] using hf):p:=h
theorem vbu{p:Prop}(h:p:=by simp at hfit ⊢;omega):p:=h
theorem vbw{p:Prop}(h:p:=by simp[Env.setF,one]):p:=h
theorem vbx{p:Prop}(h:p:=by unfold maxLen;omega):p:=h
theorem vbB{p:Prop}(h:p:=by rw[hE];exact h1):p:=h
theorem vbE{p:Prop}(h:p:=by rw[e];exact g1):p:=h
theorem vbG{p:Prop}(h:p:=by simpa using hl):p:=h
theorem vbH{p:Prop}(h:p:=by simpa using h1):p:=h
theorem vbI{p:Prop}(h:p:=by simpa using h2):p:=h
theorem vbJ{p:Prop}(h:p:=by simpa using hk):p:=h
theorem vbK{p:Prop}(h:p:=by simpa using h):p:=h
theorem vbM{p:Prop}(h:p:=by rw[hb];simp):p:=h
theorem vbO{p:Prop}(h:p:=by simp[Frs]):p:=h
theorem vbP{p:Prop}(h:p:=by simp;omega):p:=h
theorem vbQ{p:Prop}(h:p:=by simp at h):p:=h
theorem vbR{p:Prop}(h:p:=by cases hc):p:=h
theorem vbS{p:Prop}(h:p:=by cases hm):p:=h
theorem vbT{p:Prop}(h:p:=by rw[hEd]):p:=h
theorem vbU{p:Prop}(h:p:=by cases h):p:=h
theorem vbX{p:Prop}(h:p:=by omega):p:=h
theorem vbY{p:Prop}(h:p:=by grind):p:=h
theorem vbZ{p:Prop}(h:p:=by simp):p:=h
theorem oa{p:Prop}{_i:Decidable p}:decide p=false↔¬p:=by first|exact decide_eq_false_iff_not|exact decide_eq_false_iff_not ..
theorem ob{p:Prop}[Decidable p]:(decide p=true)=p:=by first|exact decide_eq_true_eq|exact decide_eq_true_eq ..
theorem oc(a b:Bool):((a&&b)=true)=(a=true∧b=true):=by first|exact Bool.and_eq_true|exact Bool.and_eq_true ..
theorem od(b:Bool):((!b)=true)=(b=false):=by first|exact Bool.not_eq_true'|exact Bool.not_eq_true' ..
theorem oe.{u,v}{α:Sort u}{β:Sort v}{a b:α}(f:α→β)(h:a=b):f a=f b:=congrArg f h
theorem og.{u}{α:Type u}{as bs:List α}:(as++bs).length=as.length+bs.length:=by first|exact List.length_append|exact List.length_append ..
theorem oh.{u}{α:Type u}{l:List α}{i:Nat}{a:α}:l.getD i a=l[i]?.getD a:=by first|exact List.getD_eq_getElem?_getD|exact List.getD_eq_getElem?_getD ..
theorem oi(a b:Bool):((a||b)=true)=(a=true∨b=true):=by first|exact Bool.or_eq_true|exact Bool.or_eq_true ..
theorem oj.{u}{α:Type u}{l:List α}{i:Nat}(h:i<l.length):l[i]?=some l[i]:=List.getElem?_eq_getElem h
theorem ol{p:Prop}[_i:Decidable p]:decide p=true→p:=by first|exact of_decide_eq_true|exact of_decide_eq_true ..
theorem om{n m:Nat}:Nat.beq n m=true→n=m:=by first|exact Nat.eq_of_beq_eq_true|exact Nat.eq_of_beq_eq_true ..
theorem oo.{u}{α:Type u}(a b:α):(some a=some b)=(a=b):=by first|exact YN.injEq|exact YN.injEq ..
theorem oq.{u,v}{α:Type v}{b:α}{β:Type u}{x:Option β}{f:β→α}:x.map f=some b↔∃a,x=some a∧f a=b:=by first|exact Option.map_eq_some_iff|exact Option.map_eq_some_iff ..
theorem ot.{u}{α:Type u}{a:α}{as:List α}:(a :: as).length=as.length+1:=by first|exact List.length_cons|exact List.length_cons ..
theorem ou(n:Nat):n≤n:=by first|exact Nat.le_refl|exact Nat.le_refl ..
theorem ow{α β:Type}(a:α)(w:World)(f:α→World→Result β):(Result.ok a w).andThen f=f a w:=by first|exact Result.andThen_ok|exact Result.andThen_ok ..
theorem oz{p:Prop}[_i:Decidable p]:decide p=false→¬p:=by first|exact of_decide_eq_false|exact of_decide_eq_false ..
theorem oA.{u}{α:Type u}:([]:List α).length=0:=by first|exact List.length_nil|exact List.length_nil ..
theorem oB.{u}{α:Sort u}(a b:α):(bif false then a else b)=b:=by first|exact cond_false|exact cond_false ..
theorem oC.{u}{α:Sort u}(a b:α):(bif true then a else b)=a:=by first|exact cond_true|exact cond_true ..
theorem oD{α β:Type}(P:Program)(w:World)(x:Sem α)(f:α→Sem β):(x >>= f).run P w=(x.run P w).andThen fun a w'=>(f a).run P w':=by first|exact Sem.run_bind|exact Sem.run_bind ..
theorem oE.{u}{α:Type u}{i:Nat}{a:α}{l:List α}:l[i]?=some a↔∃h:i<l.length,l[i]=a:=by first|exact List.getElem?_eq_some_iff|exact List.getElem?_eq_some_iff ..
theorem oF(n:Nat):n<Nat.succ n:=by first|exact Nat.lt_succ_self|exact Nat.lt_succ_self ..
theorem oG.{u}{α:Type u}{a:α}:[a].length=1:=by first|exact List.length_singleton|exact List.length_singleton ..
theorem oH{p:Prop}[Decidable p]:¬p→decide p=false:=by first|exact decide_eq_false|exact decide_eq_false ..
theorem oI.{u}{α:Type u}{i:Nat}{b:α}{xs:Array α}:xs[i]?=some b↔∃h:i<xs.size,xs[i]=b:=by first|exact Array.getElem?_eq_some_iff|exact Array.getElem?_eq_some_iff ..
theorem oJ{α:Type}(P:Program)(w:World)(a:α):(pure a:Sem α).run P w=.ok a w:=by first|exact Sem.run_pure|exact Sem.run_pure ..
theorem oK{p:Prop}[_i:Decidable p]:p→decide p=true:=by first|exact decide_eq_true|exact decide_eq_true ..
theorem oL.{u}{α:Type u}{xs:Array α}{i:Nat}(h:i<xs.size):xs[i]?=some xs[i]:=Array.getElem?_eq_getElem h
theorem oM{P:Program}{t:TypeId}{d:TypeDesc}(h:P.underlying t=some d)(w:World):(underlying t).run P w=.ok d w:=run_underlying h w
theorem oN.{u}{α:Type u}{o:Option α}:o≠none↔∃x,o=some x:=by first|exact Option.ne_none_iff_exists'|exact Option.ne_none_iff_exists' ..
theorem oO(n:Nat):¬n<0:=Nat.not_lt_zero n
theorem oP(n:Nat):¬n<n:=Nat.lt_irrefl n
theorem oQ.{u}{α:Type u}{b:α}{l:List α}{a:α}:a∈b :: l↔a=b∨a∈l:=by first|exact List.mem_cons|exact List.mem_cons ..
theorem oR.{u}{α:Type u}{a b:α}:a∈[b]↔a=b:=by first|exact List.mem_singleton|exact List.mem_singleton ..
theorem oS{n m:Nat}(h:Nat.ble n m=true):n≤m:=Nat.le_of_ble_eq_true h
theorem oT:(false=true)=False:=by first|exact Bool.false_eq_true|exact Bool.false_eq_true ..
theorem oU{n m:Nat}(k:Nat)(h:n≤m):n * k≤m * k:=Nat.mul_le_mul_right k h
theorem oV{m n:Nat}:m∈yI n↔m<n:=by first|exact List.mem_range|exact List.mem_range ..
theorem oW.{u}{α:Type u}{l:List α}{i:Nat}{a:α}(e:l[i]?=some a):a∈l:=List.mem_of_getElem? e
theorem oX.{u}{α:Type u}{a:α}{l:List α}:a∈l→∃i,∃h:i<l.length,l[i]=a:=by first|exact List.getElem_of_mem|exact List.getElem_of_mem ..
theorem oY(n m:Nat):n<m∨n ≥ m:=by first|exact Nat.lt_or_ge|exact Nat.lt_or_ge ..
theorem oZ{n m:Nat}(h:n≤m):Nat.ble n m=true:=Nat.ble_eq_true_of_le h
theorem o0.{u}{α:Type u}{p:α→Bool}{l:List α}:l.all p=true↔∀(x:α),x∈l→p x=true:=by first|exact List.all_eq_true|exact List.all_eq_true ..
theorem o3.{u}{α:Type u}{l₁ l₂:List α}{i:Nat}(hn:i<l₁.length):(l₁++l₂)[i]?=l₁[i]?:=List.getElem?_append_left hn
theorem o4.{u}{α:Type u}{l₁ l₂:List α}{i:Nat}:l₁.length≤i→(l₁++l₂)[i]?=l₂[i - l₁.length]?:=by first|exact List.getElem?_append_right|exact List.getElem?_append_right ..
theorem o5.{u}{α:Type u}{l:List α}{i:Nat}(h:l.length≤i):l[i]?=none:=List.getElem?_eq_none h
theorem o6.{u,v}{α:Type u}{β:Type v}(a:α)(b:β)(c:α)(d:β):((a,b)=(c,d))=(a=c∧b=d):=by first|exact Prod.mk.injEq|exact Prod.mk.injEq ..

inductive KV where
  |s (l:List UInt8)
  |i (n:Int)
  |p (a b:Int)
  deriving DecidableEq
inductive KD where
  |str
  |int (k:IntKind)
  |pair
def KD.key : KD → Value → Option KV
  |.str,.string s=>some (.s s.data.toList)
  |.int k,.int k' n=>bif decide (k=k') then some (.i n) else none
  | .pair, .agg vs => match vs.toList with
    |[.int .i64 a,.int .i64 b]=>some (.p a b)
    |_=>none
  |_,_=>none
inductive MV where
  |b (f:KV→Option Bool)
  |i (f:KV→Option Int)
def MV.val : MV → KV → Option Value
  |.b f,k=>(f k).map Value.bool
  |.i f,k=>(f k).map (yX .i64)
def findM(kd : KD) : List MapEntry → KV → Option Value
  |[],_=>none
  |e :: r,k=>if kd.key e.key=some k then some e.val else findM kd r k
def MapOk(kd:KD)(m:MV)(es:Array MapEntry):Prop:=(∀e∈es.toList,(kd.key e.key).isSome=true)∧∀k,findM kd es.toList k=m.val k

inductive LV where
  |int (k:IntKind) (n:Int)
  |bool (b:Bool)
  |str (s:List UInt8)
  |agg (l:List LV)
  |tup (l:List LV)
  |ro (fr:Bool) (sz n:Nat) (row:Nat→List LV)
  |ep (row:List LV) (off:Nat)
  |nilS
  |nilM
  |rm (kd:KD) (m:MV)
  |nilP
  |fn (f:Nat)
  |clo (f:Nat) (l:List LV)
  |vp (id off:Nat)
  |own (id:Nat)
  |ap (id sz i off:Nat)
  |mp (id:Nat)
  |whn (b:Bool) (v:LV)
  |k (b o:Nat)
  |er (b:Bool)
  |fv
  |any
  |ifc (t:Nat) (v:LV)

def isOne : LV → Bool
  |.agg _=>false
  |.tup _=>false
  |.whn _ _=>false
  |_=>true

inductive NR where
  |row (n:Nat) (row:Nat→List LV)
  |out (id:Nat)
  |gone
  |cell (v:LV)

inductive BC where
  |var (cells:List LV)
  |arr (sz n:Nat) (row:Nat→List LV)
  |mp (kd:KD) (m:MV)
  |nest (wd:Nat) (cl:Bool) (sz n:Nat) (rows:Nat→NR)
  |bld (T e:TypeId) (s:List UInt8)
def Mul : Option BC → Prop
  |some (.nest _ _ _ _ _)=>True
  |some (.bld _ _ _)=>True
  |_=>False
theorem zi9{o : Option BC}(h : Mul o) : (∃wd cl sz n rows, o = some (.nest wd cl sz n rows)) ∨ ∃T e s, o = some (.bld T e s) := by
 match o,h with
 |some (.nest wd cl sz n rows),_ =>exact .inl ⟨wd,cl,sz,n,rows,rfl⟩
 |some (.bld T e s),_ =>exact .inr ⟨T,e,s,rfl⟩
theorem mul_ne{o : Option BC}(h : Mul o) : o ≠ none := by
 rcases zi9 h with⟨_,_,_,_,_,rfl⟩ | ⟨_,_,_,rfl⟩
 ·exact Option.some_ne_none _
 exact Option.some_ne_none _

inductive RepC (w : World) (B : Nat) (X : Nat → Prop) : LV → Value → Prop
  |int (k:IntKind) (n:Int):RepC w B X (.int k n) (.int k n)
  |bool (b:Bool):RepC w B X (.bool b) (.bool b)
  |str (s:List UInt8):RepC w B X (.str s) (.string ⟨s.toArray⟩)
  |agg (l:List LV) (vs:Array Value) (hl:vs.size=l.length) (h:∀(i:Nat) lv v,l[i]?=some lv→vs[i]?=some v→RepC w B X lv v):RepC w B X (.agg l) (.agg vs)
  |tup (l:List LV) (vs:Array Value) (hl:vs.size=l.length) (h:∀(i:Nat) lv v,l[i]?=some lv→vs[i]?=some v→RepC w B X lv v):RepC w B X (.tup l) (.tuple vs)
  | ro (fr : Bool) (sz n : Nat) (row : Nat → List LV) (A : Option Addr) (ad : Addr) (cap : Nat) (cv : Nat → Nat → Value) (hcap : n ≤ cap) (hA : 0 < n → A = some ad) (hlt : 0 < n → ad.block < w.heap.size)
      (hX:0<n→¬X ad.block) (hB:0<n→fr=true→B≤ad.block) (hsz:∀i,i<n→(row i).length=sz) (ho:∀i,i<n→∀lv∈row i,isOne lv=true)
      (hc:∀i j,i<n→j<sz→w.cell? (ad.add (i * sz+j))=some (cv i j))
      (h:∀(i j:Nat) lv,i<n→(row i)[j]?=some lv→RepC w B X lv (cv i j)):RepC w B X (.ro fr sz n row) (.slice A n cap)
  | ep (row : List LV) (off : Nat) (ad : Addr) (cv : Nat → Value) (hlt : ad.block < w.heap.size) (hX : ¬ X ad.block) (hc : ∀ j, j < row.length → w.cell? (ad.add j) = some (cv j))
      (h:∀(j:Nat) lv,row[j]?=some lv→RepC w B X lv (cv j)):RepC w B X (.ep row off) (.pointer (some (ad.add off)))
  |nilS:RepC w B X .nilS (.slice none 0 0)
  |nilM:RepC w B X .nilM (.map none)
  |rm (kd:KD) (m:MV) (b:Nat) (es:Array MapEntry) (ck:Nat) (hlt:b<w.heap.size) (hX:¬X b) (hc:w.heap[b]?=some (.map es ck)) (hm:MapOk kd m es):RepC w B X (.rm kd m) (.map (some b))
  |nilP:RepC w B X .nilP (.pointer none)
  |clo (f:Nat) (l:List LV) (vs:Array Value) (hl:vs.size=l.length) (h:∀(i:Nat) lv v,l[i]?=some lv→vs[i]?=some v→RepC w B X lv v):RepC w B X (.clo f l) (.func (.func f) #[] vs)
  |fn (f:Nat):RepC w B X (.fn f) (.func (.func f) #[] #[])
  |k (b o:Nat):RepC w B X (.k b o) (.pointer (some ⟨b,o,none⟩))
  |er (b:Bool) (v:Value) (h0:b=false→v=.nilIface) (h1:b=true→∃t u,v=.iface t u):RepC w B X (.er b) v
  |fv (f:Fn) (cs:Array Value):RepC w B X .fv (.func f #[] cs)
  |fv0:RepC w B X .fv .nilFunc
  |any (A:Option Addr) (n c:Nat):RepC w B X .any (.slice A n c)
  |ifc (t:Nat) (lv:LV) (v:Value) (h:RepC w B X lv v):RepC w B X (.ifc t lv) (.iface t v)

structure EI where
  b:Option Nat
  off:Nat
  A:Option Addr
  vn:Nat
  vc:Nat
  n:Nat
def EI.val(e:EI):Value:=.slice e.A e.vn e.vc

structure Env where
  e:Nat→EI
  s:Nat→Nat→Prop
instance:CoeFun Env fun _=>Nat→EI:=⟨Env.e⟩
inductive Ment : LV → Nat → Prop
  |vp (id off:Nat):Ment (.vp id off) id
  |own (id:Nat):Ment (.own id) id
  |ap (id sz i off:Nat):Ment (.ap id sz i off) id
  |mp (id:Nat):Ment (.mp id) id
  |agg (l:List LV) (lv:LV) (id:Nat) (h:lv∈l) (h':Ment lv id):Ment (.agg l) id
  |tup (l:List LV) (lv:LV) (id:Nat) (h:lv∈l) (h':Ment lv id):Ment (.tup l) id
  |clo (f:Nat) (l:List LV) (lv:LV) (id:Nat) (h:lv∈l) (h':Ment lv id):Ment (.clo f l) id
  |whn (b:Bool) (lv:LV) (id:Nat) (hb:b=true) (h':Ment lv id):Ment (.whn b lv) id
  |ifc (t:Nat) (lv:LV) (id:Nat) (h':Ment lv id):Ment (.ifc t lv) id

inductive RepV (w : World) (B : Nat) (X : Nat → Prop) (E : Env) : LV → Value → Prop
  |c (lv:LV) (v:Value) (h:RepC w B X lv v):RepV w B X E lv v
  |vp (id off b:Nat) (hb:(E id).b=some b):RepV w B X E (.vp id off) (.pointer (some ⟨b,off,none⟩))
  |own (id:Nat):RepV w B X E (.own id) (E id).val
  |ap (id sz i off b:Nat) (hb:(E id).b=some b) (hi:i<(E id).n):RepV w B X E (.ap id sz i off) (.pointer (some ⟨b,(E id).off+i * sz+off,none⟩))
  |mp (id b:Nat) (hb:(E id).b=some b):RepV w B X E (.mp id) (.map (some b))
  |agg (l:List LV) (vs:Array Value) (hl:vs.size=l.length) (h:∀(i:Nat) lv v,l[i]?=some lv→vs[i]?=some v→RepV w B X E lv v):RepV w B X E (.agg l) (.agg vs)
  |tup (l:List LV) (vs:Array Value) (hl:vs.size=l.length) (h:∀(i:Nat) lv v,l[i]?=some lv→vs[i]?=some v→RepV w B X E lv v):RepV w B X E (.tup l) (.tuple vs)
  |clo (f:Nat) (l:List LV) (vs:Array Value) (hl:vs.size=l.length) (h:∀(i:Nat) lv v,l[i]?=some lv→vs[i]?=some v→RepV w B X E lv v):RepV w B X E (.clo f l) (.func (.func f) #[] vs)
  |whn (b:Bool) (lv:LV) (v:Value) (h:b=true→RepV w B X E lv v) (hn:b=false→v=undef):RepV w B X E (.whn b lv) v
  |ifc (t:Nat) (lv:LV) (v:Value) (h:RepV w B X E lv v):RepV w B X E (.ifc t lv) (.iface t v)

theorem zcm(a:Addr)(n:Nat):(a.add n).block=a.block:=by unfold Addr.add;split<;>rfl
theorem zil(a:Addr)(i j:Nat):(a.add i).add j=a.add (i+j):=by unfold Addr.add;by_cases hi:i=0<;>by_cases hj:j=0<;>simp[hi,hj,Nat.add_assoc]
theorem za1(b o n:Nat):(⟨b,o,none⟩:Addr).add n=⟨b,o+n,none⟩:=by unfold Addr.add;split<;>simp_all

theorem RepC.keep{w w' : World}{B B' : Nat}{X X' : Nat → Prop}{lv : LV}{v : Value}(h : RepC w B X lv v)(hs : w.heap.size ≤ w'.heap.size)(hk : ∀b, b < w.heap.size → ¬X b → w'.heap[b]? = w.heap[b]?)(hx : ∀b, X' b → X b ∨ w.heap.size ≤ b)(hB : B' ≤ B) : RepC w' B' X' lv v := by
 induction h with
 |int k n =>exact .int k n
 |bool b =>exact .bool b
 |str s =>exact .str s
 |agg l vs hl _ ih =>exact .agg l vs hl ih
 |tup l vs hl _ ih =>exact .tup l vs hl ih
 |ro fr sz n row A ad cap cv hcap hA hlt hX hb hsz ho hc _ ih =>
  refine .ro fr sz n row A ad cap cv hcap hA (fun h0=>Y4 (hlt h0) hs) (fun h0 hxx=>?_) (fun h0 hf=>yM hB (hb h0 hf)) hsz ho (fun i j hi hj=>?_) ih
  ·grind
  have h0:0<n:=vbX
  rw[YV (w:=w) (by rw[zcm];exact hk _ (hlt h0) (hX h0))];grind
 |ep row off ad cv hlt hX hc _ ih =>
  refine .ep row off ad cv (Y4 hlt hs) (fun hxx=>?_) (fun j hj=>?_) ih
  ·grind
  rw[YV (w:=w) (by rw[zcm];exact hk _ hlt hX)];exact hc j hj
 |nilS =>exact .nilS
 |nilM =>exact .nilM
 |rm kd m b es ck hlt hX hc hm =>exact .rm kd m b es ck (Y4 hlt hs) (fun h=>(hx _ h).elim hX fun h1=>vbX) (by rw[hk _ hlt hX];exact hc) hm
 |nilP =>exact .nilP
 |clo f l vs hl _ ih =>exact .clo f l vs hl ih
 |fn f =>exact .fn f
 |k b o =>exact .k b o
 |er b v h0 h1 =>exact .er b v h0 h1
 |fv f cs =>exact .fv f cs
 |fv0 =>exact .fv0
 |any A n c =>exact .any A n c
 |ifc t lv v _ ih =>exact .ifc t lv v ih

theorem RepC.noMent{w : World}{B : Nat}{X : Nat → Prop}{lv : LV}{v : Value}(h : RepC w B X lv v) : ∀id, ¬Ment lv id := by
 induction h with
 |agg l vs hl _ ih =>
  intro id hm;cases hm with
  |agg _ lv _ hlv hm' =>obtain⟨i,hi,e⟩:=oX hlv;have hv:vs[i]?=some (vs[i]' vbX):=oL vbX;grind
 |tup l vs hl _ ih =>
  intro id hm;cases hm with
  |tup _ lv _ hlv hm' =>obtain⟨i,hi,e⟩:=oX hlv;have hv:vs[i]?=some (vs[i]' vbX):=oL vbX;grind
 |clo f l vs hl _ ih =>
  intro id hm;cases hm with
  |clo _ _ lv _ hlv hm' =>obtain⟨i,hi,e⟩:=oX hlv;have hv:vs[i]?=some (vs[i]' vbX):=oL vbX;grind
 |ifc t lv v _ ih =>intro id hm;cases hm with|ifc _ _ _ h=>exact ih id h
 |_ =>intro id hm;cases hm

theorem RepV.keep{w w' : World}{B : Nat}{X X' : Nat → Prop}{E E' : Env}{lv : LV}{v : Value}(h : RepV w B X E lv v)(hs : w.heap.size ≤ w'.heap.size)(hk : ∀b, b < w.heap.size → ¬X b → w'.heap[b]? = w.heap[b]?)(hx : ∀b, X' b → X b ∨ w.heap.size ≤ b)(hE : ∀id, Ment lv id → E' id = E id) : RepV w' B X' E' lv v := by
 induction h with
 |c lv v h =>exact .c _ _ (h.keep hs hk hx (ou _))
 |vp id off b hb =>exact .vp id off b (by rw[hE id (.vp id off)];exact hb)
 |own id =>rw[←hE id (.own id)];exact .own id
 | ap id sz i off b hb hi =>have he:=hE id (.ap id sz i off);rw[←he] at hb hi ⊢;exact .ap id sz i off b hb hi
 |mp id b hb =>exact .mp id b (by rw[hE id (.mp id)];exact hb)
 |agg l vs hl _ ih =>exact .agg l vs hl fun i lv v h1 h2=>ih i lv v h1 h2 fun id hm=>hE id (.agg l lv id (oW h1) hm)
 |tup l vs hl _ ih =>exact .tup l vs hl fun i lv v h1 h2=>ih i lv v h1 h2 fun id hm=>hE id (.tup l lv id (oW h1) hm)
 |clo f l vs hl _ ih =>exact .clo f l vs hl fun i lv v h1 h2=>ih i lv v h1 h2 fun id hm=>hE id (.clo f l lv id (oW h1) hm)
 |whn b lv v _ hn ih =>exact .whn b lv v (fun hb=>ih hb fun id hm=>hE id (.whn b lv id hb hm)) hn
 |ifc t lv v _ ih =>exact .ifc t lv v (ih fun id hm=>hE id (.ifc t lv id hm))

structure FS where
  slot:Nat→Option LV
  blk:Nat→Option BC
  used:Nat→Bool

structure Fr where
  blk:Nat→Option Obj
  own:Nat→Prop
  pin:Nat→Option EI
  low:∀i,i<900000→pin i=none
  sz:Nat

def OwnAt(blk:Nat→Option BC)(E:Env)(i b:Nat):Prop:=(blk i≠none∧(E i).b=some b)∨(Mul (blk i)∧E.s i b)
def Own(σ:FS)(E:Env)(X0:Fr):Nat→Prop:=fun b=>X0.own b∨∃i,OwnAt σ.blk E i b
theorem OwnAt.ne{blk : Nat → Option BC}{E : Env}{i b : Nat}(h : OwnAt blk E i b) : blk i ≠ none := by
 rcases h with h | h
 ·exact h.1
 exact mul_ne h.1

def ArrOk(w : World)(B : Nat)(X : Nat → Prop)(e : EI)(sz n : Nat)(row : Nat → List LV) : Prop :=
  e.n = n ∧
      ((e.b = none ∧ e.val = .slice none 0 0 ∧ n = 0) ∨
       ∃ b cap vs T, e.b = some b ∧ e.val = .slice (some ⟨b, e.off, none⟩) n cap ∧ B ≤ b ∧ w.heap[b]? = some (.cells vs T (0, 0)) ∧ n ≤ cap ∧ cap ≤ maxLen ∧ e.off + cap * sz ≤ vs.size ∧
         ∀k,k<n→(row k).length=sz∧(∀lv∈row k,isOne lv=true)∧∀(j:Nat) lv v,(row k)[j]?=some lv→vs[e.off+k * sz+j]?=some v→RepC w B X lv v)
def NROk(w : World)(B : Nat)(X : Nat → Prop)(E : Env)(sz : Nat)(ek : EI)(v : Value) : NR → Prop
  |.row n row=>v=ek.val∧ArrOk w B X ek sz n row
  |.out id=>v=(E id).val
  |.gone=>∃A n c,v=.slice A n c
  |.cell lv=>isOne lv=true∧RepC w B X lv v
def cN(wd n : Nat) : Nat := match wd with
  |1=>n
  |wd=>n * wd
theorem cN_eq(wd n : Nat) : cN wd n = n * wd := by
 unfold cN;split
 ·omega
 rfl
theorem znd(wd:Nat):cN wd 0=0:=by rw[cN_eq,Nat.zero_mul]
def NR.isRow : NR → Prop
  |.row _ _=>True
  |_=>False
structure SubOk(c : Bool)(s : Nat → Prop)(eb : Option Nat)(n : Nat)(rows : Nat → NR)(ek : Nat → EI) : Prop where
  iff:∀b,s b↔∃k,k<n∧(rows k).isRow∧(ek k).b=some b
  inj:∀k k' b,k<n→k'<n→(rows k).isRow→(rows k').isRow→(ek k).b=some b→(ek k').b=some b→k=k'
  ne:∀k b,k<n→(rows k).isRow→(ek k).b=some b→eb≠some b
  cl:c=true→∀k id,k<n→rows k≠.out id

def bytesV(s:List UInt8):List Value:=s.map fun c=>yX .u8 c.toNat
def BufAt(w : World)(B : Nat)(T e : TypeId)(b : Nat)(v p : Value)(s : List UInt8) : Prop :=
  B≤b∧w.heap[b]?=some (.cells #[p,v] T (0,0))∧(p=.pointer none∨p=.pointer (some ⟨b,0,none⟩))∧w.ownsRow B e 1 v s.length (bytesV s)∧v.ownBlock≠some b
theorem BufAt.lt{w:World}{B:Nat}{T e:TypeId}{b:Nat}{v p:Value}{s:List UInt8}(h:BufAt w B T e b v p s):b<w.heap.size:=(oI.1 h.2.1).1
theorem BufAt.keep{w w' : World}{B B' : Nat}{T e : TypeId}{b : Nat}{v p : Value}{s : List UInt8}(h : BufAt w B T e b v p s)(hb : w'.heap[b]? = w.heap[b]?)(hg : ∀g, v.ownBlock = some g → w'.heap[g]? = w.heap[g]?)(hB : B' ≤ B) : BufAt w' B' T e b v p s := by
 obtain⟨h1,h2,h3,⟨h4,h5⟩,h6⟩:=h;refine⟨yM hB h1,by rw[hb];exact h2,h3,⟨h4,?_⟩,h6⟩;rcases h5 with h5 | ⟨g,cap,cur,rfl,k1,k2,k3⟩
 ·grind
 exact .inr ⟨g,cap,cur,rfl,yM hB k1,by rw[hg g rfl];exact k2,k3⟩
theorem BufAt.sub{w:World}{B:Nat}{T e:TypeId}{b:Nat}{v p:Value}{s:List UInt8}(h:BufAt w B T e b v p s){g:Nat}(hg:v.ownBlock=some g):g<w.heap.size∧B≤g∧g≠b:=⟨(h.2.2.2.1.lt g hg).2,(h.2.2.2.1.lt g hg).1,fun e=>h.2.2.2.2 (by rw[hg,e])⟩
def BlkOk(w : World)(B : Nat)(X : Nat → Prop)(E : Env)(i : Nat) : BC → Prop
  |.bld T e s=>∃b v p,(E i).b=some b∧BufAt w B T e b v p s∧∀g,E.s i g↔v.ownBlock=some g
  |.var cells=>∃b vs T,(E i).b=some b∧B≤b∧w.heap[b]?=some (.cells vs T (0,0))∧vs.size=cells.length∧∀(j:Nat) lv v,cells[j]?=some lv→vs[j]?=some v→RepV w B X E lv v
  |.mp kd m=>∃b es ck,(E i).b=some b∧B≤b∧w.heap[b]?=some (.map es ck)∧MapOk kd m es
  | .arr sz n row => (E i).n = n ∧
      (((E i).b = none ∧ (E i).val = .slice none 0 0 ∧ n = 0) ∨
       ∃ b cap vs T, (E i).b = some b ∧ (E i).val = .slice (some ⟨b, (E i).off, none⟩) n cap ∧ B ≤ b ∧ w.heap[b]? = some (.cells vs T (0, 0)) ∧ n ≤ cap ∧ cap ≤ maxLen ∧ (E i).off + cap * sz ≤ vs.size ∧
         ∀k,k<n→(row k).length=sz∧(∀lv∈row k,isOne lv=true)∧∀(j:Nat) lv v,(row k)[j]?=some lv→vs[(E i).off+k * sz+j]?=some v→RepC w B X lv v)
  | .nest wd cl sz n rows => ∃ ek : Nat → EI, SubOk cl (E.s i) (E i).b (cN wd n) rows ek ∧ (E i).n = n ∧
      (((E i).b = none ∧ (E i).val = .slice none 0 0 ∧ n = 0) ∨
       ∃ b cap vs T, (E i).b = some b ∧ (E i).val = .slice (some ⟨b, (E i).off, none⟩) n cap ∧ B ≤ b ∧ w.heap[b]? = some (.cells vs T (0, 0)) ∧ n ≤ cap ∧ cap ≤ maxLen ∧ (E i).off + cN wd cap ≤ vs.size ∧
         ∀k,k<cN wd n→NROk w B X E sz (ek k) (vs.getD ((E i).off+k) undef) (rows k))

def gPow:List Int:=(yI 20).map fun i=>((10 ^ i:Nat):Int)
def gWords:List (List UInt8):=[[97,110,121],[109,101,110],[119,111,109,101,110],[111,110,108,121,32,109,101,110],[111,110,108,121,32,119,111,109,101,110]]
def GH(w:World):Prop:=(4≤w.heap.size∧∀j,j<5→w.cell? ⟨0,j,none⟩=some (.string ⟨(gWords.getD j []).toArray⟩))∧(∃t f,w.heap[2]?=some (.cells (gPow.map fun z=>yX .u64 z).toArray t f))∧(∃m,w.cell? ⟨1,0,none⟩=some (.int .i64 m))∧∃te pe,w.cell? ⟨3,0,none⟩=some (.iface te pe)
theorem GH.below{w w' : World}(h : GH w)(hb : Below w.heap.size w w') : GH w' := by
 obtain⟨⟨h0,h4⟩,⟨t,f,h1⟩,⟨m,h2⟩,te,pe,h3⟩:=h;refine⟨⟨yM h0 hb.size,fun j hj=>?_⟩,⟨t,f,by rw[hb.block 2 vbX];exact h1⟩,⟨m,?_⟩,te,pe,?_⟩
 ·rw [YV (w := w) (hb.block 0 vbX)]; exact h4 j hj
 ·rw [YV (w := w) (hb.block 1 vbX)]; exact h2
 rw[YV (w:=w) (hb.block 3 vbX)];exact h3
def gRow : Nat → Option (List LV)
  |0=>some (gWords.map LV.str)
  |_+1=>none
theorem GH.row{w : World}(h : GH w){g : Nat}{row : List LV}(hr : gRow g = some row) : g < w.heap.size ∧ ∃cv : Nat → Value, (∀j, j < row.length → w.cell? ⟨g, j, none⟩ = some (cv j)) ∧ ∀(w' : World) (B : Nat) (X : Nat → Prop) (j : Nat) lv, row[j]? = some lv → RepC w' B X lv (cv j) := by
 cases g with
 |succ g =>cases hr
 |zero =>cases hr;obtain⟨⟨h0,h4⟩,_⟩:=h;refine⟨vbX,fun j=>.string ⟨(gWords.getD j []).toArray⟩,fun j hj=>h4 j (by simpa[gWords] using hj),fun w' B X j lv hj=>?_⟩;rw[List.getElem?_map] at hj;obtain⟨s,hs,rfl⟩:=oq.1 hj;have e:gWords.getD j []=s:=(by rw[oh,hs];rfl);show RepC w' B X (.str s) (.string ⟨(gWords.getD j []).toArray⟩);rw[e];exact .str s
structure Sat(N : Nat)(w0 : World)(X0 : Fr)(σ : FS)(E : Env)(a : Act)(w : World) : Prop where
  size:a.tmps.size=N
  defers:a.defers=[]
  below:Below w0.heap.size w0 w
  slots:∀t lv,σ.slot t=some lv→RepV w w0.heap.size (Own σ E X0) E lv (a.tmps.getD t undef)
  blks:∀i c,σ.blk i=some c→BlkOk w w0.heap.size (Own σ E X0) E i c
  injA:∀i j b,OwnAt σ.blk E i b→OwnAt σ.blk E j b→i=j
  live:∀i,σ.blk i≠none→σ.used i=true
  wfs:∀t lv id,σ.slot t=some lv→Ment lv id→σ.used id=true
  wfb:∀i cells lv id,σ.blk i=some (.var cells)→lv∈cells→Ment lv id→σ.used id=true
  wfn:∀i wd cl sz n rows k id,σ.blk i=some (.nest wd cl sz n rows)→k<cN wd n→rows k=.out id→σ.used id=true
  baseA:∀b o,X0.blk b=some o→w.heap[b]?=some o∧∀i,¬OwnAt σ.blk E i b
  bown:∀b,X0.own b→∃o,X0.blk b=some o
  pin:∀i ei,X0.pin i=some ei→σ.blk i≠none→E i=ei
  pu:∀i,900000≤i→σ.used i=true
  szf:X0.sz≤w.heap.size
  gh:GH w0
  xge:∀b,X0.own b→w0.heap.size≤b

theorem Sat.inj{N:Nat}{w0:World}{X0:Fr}{σ:FS}{E:Env}{a:Act}{w:World}(h:Sat N w0 X0 σ E a w):∀i j b,σ.blk i≠none→σ.blk j≠none→(E i).b=some b→(E j).b=some b→i=j:=fun i j b hi hj hib hjb=>h.injA i j b (.inl ⟨hi,hib⟩) (.inl ⟨hj,hjb⟩)
theorem Sat.base{N:Nat}{w0:World}{X0:Fr}{σ:FS}{E:Env}{a:Act}{w:World}(h:Sat N w0 X0 σ E a w):∀b o,X0.blk b=some o→w.heap[b]?=some o∧∀i,σ.blk i≠none→(E i).b≠some b:=fun b o hb=>⟨(h.baseA b o hb).1,fun i hi hib=>(h.baseA b o hb).2 i (.inl ⟨hi,hib⟩)⟩

def FS.put(σ:FS)(d:Nat)(lv:LV):FS:={ σ with slot:=fun t=>if t=d then some lv else σ.slot t }
def FS.setF(σ : FS)(K : Nat → Bool)(U : Nat → Option (BC × EI)) : FS :=
  { σ with blk:=fun j=>match U j with | some x=>some x.1 | none=>if K j=true then none else σ.blk j,used:=fun j=>(U j).isSome||σ.used j }
def Env.setFS(E:Env)(U:Nat→Option (BC×EI))(S:Nat→Nat→Prop):Env:=⟨fun j=>match U j with | some x=>x.2 | none=>E j,fun j=>match U j with | some _=>S j | none=>E.s j⟩
def Env.setF(E:Env)(U:Nat→Option (BC×EI)):Env:=⟨fun j=>match U j with | some x=>x.2 | none=>E j,fun j=>match U j with | some _=>fun _=>False | none=>E.s j⟩

theorem Sat.put{N : Nat}{w0 : World}{X0 : Fr}{σ : FS}{E : Env}{a : Act}{w : World}(h : Sat N w0 X0 σ E a w){d : Nat}(hd : d < N){lv : LV}{v : Value}
    (hr:RepV w w0.heap.size (Own σ E X0) E lv v) (hm:∀id,Ment lv id→σ.used id=true):Sat N w0 X0 (σ.put d lv) E (a.put (some d) v) w where
  size:=by simpa[Act.put] using h.size
  defers:=h.defers
  below:=h.below
  slots := by
    intro t x hx
    simp only[FS.put] at hx
    by_cases ht:t=d
    · subst ht
      simp only[if_true,oo] at hx
      subst hx
      have hs:t<a.tmps.size:=by rw[h.size];exact hd
      have e:(a.put (some t) v).tmps.getD t undef=v:=by simp[Act.put,hs]
      rw[e];exact hr
    · simp only [ht] at hx
      have e : (a.put (some d) v).tmps.getD t undef = a.tmps.getD t undef := by
        simp[Act.put,Array.getElem?_setIfInBounds_ne (Ne.symm ht)]
      rw[e];exact h.slots t x hx
  blks:=h.blks
  injA:=h.injA
  live:=h.live
  wfs := by
    intro t x id hx hmm
    simp only[FS.put] at hx
    by_cases ht:t=d
    · simp only [ht,if_true,oo] at hx;subst hx;exact hm id hmm
    · simp only [ht] at hx;exact h.wfs t x id hx hmm
  wfb:=h.wfb
  wfn:=h.wfn
  baseA:=h.baseA
  bown:=h.bown
  pin:=h.pin
  pu:=h.pu
  szf:=h.szf
  gh:=h.gh
  xge:=h.xge

theorem BlkOk.lt{w : World}{B : Nat}{X : Nat → Prop}{E : Env}{i b : Nat}{c : BC}(h : BlkOk w B X E i c)(hb : (E i).b = some b) : b < w.heap.size := by
 cases c with
 |bld T e s =>obtain⟨b',v,p,g1,g2,_⟩:=h;rw[hb] at g1;injection g1 with g1;subst g1;exact g2.lt
 |var cells =>obtain⟨b',vs,T,g1,_,g3,_⟩:=h;rw[hb] at g1;injection g1 with g1;subst g1;exact(oI.1 g3).1
 |mp kd m =>obtain⟨b',es,ck,g1,_,g3,_⟩:=h;rw[hb] at g1;injection g1 with g1;subst g1;exact(oI.1 g3).1
 |nest wd cl sz n rows =>obtain⟨_,_,_,h⟩:=h;grind
 |arr sz n row =>
  rcases h.2 with⟨g1,_⟩ | ⟨b',cap,vs,T,g1,_,_,g4,_⟩
  ·grind
  grind

theorem ArrOk.lt{w : World}{B : Nat}{X : Nat → Prop}{e : EI}{sz n b : Nat}{row : Nat → List LV}(h : ArrOk w B X e sz n row)(hb : e.b = some b) : b < w.heap.size ∧ B ≤ b := by
 rcases h.2 with⟨g1,_⟩ | ⟨b',cap,vs,T,g1,_,g3,g4,_⟩
 ·grind
 grind
theorem ArrOk.keep{w w' : World}{B B' : Nat}{X X' : Nat → Prop}{e : EI}{sz n : Nat}{row : Nat → List LV}(h : ArrOk w B X e sz n row)(hs : w.heap.size ≤ w'.heap.size)(hb : ∀b, e.b = some b → w'.heap[b]? = w.heap[b]?)(hk : ∀b, b < w.heap.size → ¬X b → w'.heap[b]? = w.heap[b]?)(hx : ∀b, X' b → X b ∨ w.heap.size ≤ b)(hB : B' ≤ B) : ArrOk w' B' X' e sz n row := by
 refine⟨h.1,?_⟩;rcases h.2 with h1 | ⟨b,cap,vs,T,h1,h2,h3,h4,h5,h6,h7,h8⟩
 ·grind
 exact .inr ⟨b,cap,vs,T,h1,h2,yM hB h3,by rw[hb b h1];exact h4,h5,h6,h7,fun k hk'=>⟨(h8 k hk').1,(h8 k hk').2.1,fun m lv v hl hv=>((h8 k hk').2.2 m lv v hl hv).keep hs hk hx hB⟩⟩
theorem BlkOk.nestSub{w : World}{B : Nat}{X : Nat → Prop}{E : Env}{i b wd sz n : Nat}{cl : Bool}{rows : Nat → NR}(h : BlkOk w B X E i (.nest wd cl sz n rows))(hb : E.s i b) : b < w.heap.size ∧ B ≤ b ∧ (E i).b ≠ some b := by
 obtain⟨ek,hs,_,h⟩:=h;obtain⟨k,hk,hr,hkb⟩:=(hs.iff b).1 hb;refine⟨?_,?_,hs.ne k b hk hr hkb⟩<;>rcases h with⟨_,_,h0⟩ | ⟨b',cap,vs,T,_,_,_,_,_,_,_,g8⟩
 ·rw [h0, znd] at hk; omega
 ·have := g8 k hk;cases hrk : rows k with
  |row m r =>rw[hrk] at this;exact(this.2.lt hkb).1
  |out id =>rw[hrk] at hr;exact hr.elim
  |gone =>rw[hrk] at hr;exact hr.elim
  |cell v =>rw[hrk] at hr;exact hr.elim
 ·rw [h0, znd] at hk; omega
 have:=g8 k hk;cases hrk:rows k with
 |row m r =>rw[hrk] at this;exact(this.2.lt hkb).2
 |out id =>rw[hrk] at hr;exact hr.elim
 |gone =>rw[hrk] at hr;exact hr.elim
 |cell v =>rw[hrk] at hr;exact hr.elim
theorem BlkOk.bldSub{w:World}{B:Nat}{X:Nat→Prop}{E:Env}{i b:Nat}{T e:TypeId}{s:List UInt8}(h:BlkOk w B X E i (.bld T e s))(hb:E.s i b):b<w.heap.size∧B≤b∧(E i).b≠some b:=by obtain⟨b',v,p,h1,h2,h3⟩:=h;have:=h2.sub ((h3 b).1 hb);grind
theorem NROk.keep{w w' : World}{B B' : Nat}{X X' : Nat → Prop}{E E' : Env}{sz : Nat}{ek : EI}{v : Value}{r : NR}(h : NROk w B X E sz ek v r)(hs : w.heap.size ≤ w'.heap.size)(hb : r.isRow → ∀b, ek.b = some b → w'.heap[b]? = w.heap[b]?)(hk : ∀b, b < w.heap.size → ¬X b → w'.heap[b]? = w.heap[b]?)(hx : ∀b, X' b → X b ∨ w.heap.size ≤ b)(hB : B' ≤ B)(hE : ∀id, r = .out id → E' id = E id) : NROk w' B' X' E' sz ek v r := by
 cases r with
 |row n row =>exact⟨h.1,h.2.keep hs (hb trivial) hk hx hB⟩
 |out id =>show v=(E' id).val;rw[hE id rfl];exact h
 |gone =>exact h
 |cell lv =>exact⟨h.1,h.2.keep hs hk hx hB⟩
theorem Sat.olt{N : Nat}{w0 : World}{X0 : Fr}{σ : FS}{E : Env}{a : Act}{w : World}(h : Sat N w0 X0 σ E a w){k b : Nat}(hk : OwnAt σ.blk E k b) : b < w.heap.size := by
 rcases hk with⟨hk,hb⟩ | ⟨hk,hb⟩
 ·obtain ⟨c, hc⟩ := oN.1 hk;exact (h.blks k c hc).lt hb
 rcases zi9 hk with⟨wd,cl,sz,n,rows,hc⟩ | ⟨T,e,s,hc⟩
 ·exact ((h.blks k _ hc).nestSub hb).1
 exact((h.blks k _ hc).bldSub hb).1

theorem Sat.setFS{N : Nat}{w0 : World}{X0 : Fr}{σ : FS}{E : Env}{a : Act}{w w' : World}(h : Sat N w0 X0 σ E a w)(K : Nat → Bool)(U : Nat → Option (BC × EI))(S : Nat → Nat → Prop)(hu : ∀i x, U i = some x → σ.used i = false ∨ (x.2 = E i ∧ σ.blk i ≠ none))(hs : w.heap.size ≤ w'.heap.size)(hw : ∀b, b < w.heap.size → (∀j, (U j ≠ none ∨ K j = true) → ¬OwnAt σ.blk E j b) → w'.heap[b]? = w.heap[b]?)(hown : ∀i x b, U i = some x → (x.2.b = some b ∨ (Mul (some x.1) ∧ S i b)) → w.heap.size ≤ b ∨ ∃j, (U j ≠ none ∨ K j = true) ∧ OwnAt σ.blk E j b)(huu : ∀i j x y b, U i = some x → U j = some y → (x.2.b = some b ∨ (Mul (some x.1) ∧ S i b)) → (y.2.b = some b ∨ (Mul (some y.1) ∧ S j b)) → i = j)(hbelow : Below w0.heap.size w0 w')(hwf : ∀i cells ei lv id, U i = some (.var cells, ei) → lv ∈ cells → Ment lv id → U id ≠ none ∨ σ.used id = true)(hwn : ∀i wd cl sz n rows ei k id, U i = some (.nest wd cl sz n rows, ei) → k < cN wd n → rows k = .out id → U id ≠ none ∨ σ.used id = true)(hok : ∀i x, U i = some x → BlkOk w' w0.heap.size (Own (σ.setF K U) (E.setFS U S) X0) (E.setFS U S) i x.1) : Sat N w0 X0 (σ.setF K U) (E.setFS U S) a w' := by
 have hE:∀id,σ.used id=true→(E.setFS U S) id=E id:=by intro id hid;show(match U id with | some x=>x.2 | none=>E id)=E id;grind
 have hlive:∀j,(σ.setF K U).blk j≠none→(∃x,U j=some x)∨(U j=none∧K j=false∧σ.blk j≠none):=by intro j hj;simp only[FS.setF] at hj;grind
 have hEU:∀j x,U j=some x→(E.setFS U S) j=x.2:=fun j x hU=>by simp[Env.setFS,hU]
 have hSU:∀j x,U j=some x→(E.setFS U S).s j=S j:=fun j x hU=>by simp[Env.setFS,hU]
 have hSN:∀j,U j=none→(E.setFS U S).s j=E.s j:=fun j hU=>by simp[Env.setFS,hU]
 have hbU:∀j x,U j=some x→(σ.setF K U).blk j=some x.1:=fun j x hU=>by simp[FS.setF,hU]
 have hbN:∀j,U j=none→K j=false→(σ.setF K U).blk j=σ.blk j:=fun j hU hK=>by simp[FS.setF,hU,hK]
 have hat : ∀j b, OwnAt (σ.setF K U).blk (E.setFS U S) j b → (∃x, U j = some x ∧ (x.2.b = some b ∨ (Mul (some x.1) ∧ S j b))) ∨ (U j = none ∧ K j = false ∧ OwnAt σ.blk E j b) := by
  intro j b hb;rcases hlive j hb.ne with⟨x,hU⟩ | ⟨hU,hK,h1⟩
  ·refine .inl ⟨x, hU, ?_⟩;rcases hb with ⟨_, hb⟩ | ⟨hm, hb⟩
   ·rw [hEU j x hU] at hb; exact .inl hb
   grind
  refine .inr ⟨hU,hK,?_⟩;rcases hb with⟨_,hb⟩ | ⟨hm,hb⟩
  ·rw [hE j (h.live j h1)] at hb; exact .inl ⟨h1, hb⟩
  rw[hSN j hU] at hb;rw[hbN j hU hK] at hm;exact .inr ⟨hm,hb⟩
 have hx : ∀b, Own (σ.setF K U) (E.setFS U S) X0 b → Own σ E X0 b ∨ w.heap.size ≤ b := by
  intro b hb;rcases hb with hb | ⟨j,hj⟩
  ·exact .inl (.inl hb)
  rcases hat j b hj with⟨x,hU,h1⟩ | ⟨_,_,h1⟩
  ·rcases hown j x b hU h1 with h2 | ⟨k, _, h2⟩
   ·exact .inr h2
   exact .inl (.inr ⟨k,h2⟩)
  exact .inl (.inr ⟨j,h1⟩)
 have hk:∀b,b<w.heap.size→¬Own σ E X0 b→w'.heap[b]?=w.heap[b]?:=by intro b hb hno;exact hw b hb fun j _ hj=>hno (.inr ⟨j,hj⟩)
 refine⟨h.size,h.defers,hbelow,?_,?_,?_,?_,?_,?_,?_,?_,h.bown,?_,fun i hi=>by simp[FS.setF,h.pu i hi],yM h.szf hs,h.gh,h.xge⟩
 ·intro t lv ht;exact (h.slots t lv ht).keep hs hk hx fun id hm => hE id (h.wfs t lv id ht hm)
 ·intro j c' hj;cases hU : U j with
  |some x =>have:c'=x.1:=(by simp only[FS.setF,hU,oo] at hj;exact hj.symm);subst this;exact hok j x hU
  |none =>
   have hj' : σ.blk j = some c' ∧ K j = false := by
    simp only[FS.setF,hU] at hj;cases hK:K j with
    |true =>simp[hK] at hj
    |false =>simp only[hK,oT,if_false] at hj;exact⟨hj,rfl⟩
   have hne : σ.blk j ≠ none := (by rw[hj'.1]; simp);have hEj := hE j (h.live j hne);have hb := h.blks j c' hj'.1;have keepo : ∀b, OwnAt σ.blk E j b → w'.heap[b]? = w.heap[b]? := by
    intro b hjb;refine hw b (h.olt hjb) fun k hk' hkb=>?_;have:=h.injA k j b hkb hjb;subst this;rcases hk' with h1 | h1
    ·exact h1 hU
    rw[hj'.2] at h1;cases h1
   have keepb:∀b,(E j).b=some b→b<w.heap.size→w'.heap[b]?=w.heap[b]?:=fun b hjb _=>keepo b (.inl ⟨hne,hjb⟩);cases c' with
   |bld T e s =>obtain⟨b,v,p,h1,h2,h3⟩:=hb;have hmul:Mul (σ.blk j):=(by rw[hj'.1];trivial);refine⟨b,v,p,by rw[hEj];exact h1,h2.keep (keepb b h1 h2.lt) (fun g hg=>keepo g (.inr ⟨hmul,(h3 g).2 hg⟩)) (ou _),?_⟩;rw[hSN j hU];exact h3
   |var cells =>
    obtain⟨b,vs,T,h1,h2,h3,h4,h5⟩:=hb;have hlt':b<w.heap.size:=(oI.1 h3).1;refine⟨b,vs,T,?_,h2,by rw[keepb b h1 hlt'];exact h3,h4,fun m lv v hl hv=>?_⟩
    ·rw [hEj]; exact h1
    exact(h5 m lv v hl hv).keep hs hk hx fun id hm=>hE id (h.wfb j cells lv id hj'.1 (oW hl) hm)
   |mp kd m =>obtain⟨b,es,ck,h1,h2,h3,h4⟩:=hb;have hlt':b<w.heap.size:=(oI.1 h3).1;exact⟨b,es,ck,by rw[hEj];exact h1,h2,by rw[keepb b h1 hlt'];exact h3,h4⟩
   |arr sz n row =>
    obtain⟨hn,hb⟩:=hb;refine⟨by rw[hEj];exact hn,?_⟩;rw[hEj];rcases hb with hb | ⟨b,cap,vs,T,h1,h2,h3,h4,h5,h6,h7,h8⟩
    ·exact .inl hb
    have hlt':b<w.heap.size:=(oI.1 h4).1;refine .inr ⟨b,cap,vs,T,h1,h2,h3,by rw[keepb b h1 hlt'];exact h4,h5,h6,h7,fun k hk'=>⟨(h8 k hk').1,(h8 k hk').2.1,fun m lv v hl hv=>?_⟩⟩;exact((h8 k hk').2.2 m lv v hl hv).keep hs hk hx (ou _)
   |nest wd cl sz n rows =>
    obtain⟨ek,hsub,hn,hb⟩:=hb;have hmul:Mul (σ.blk j):=(by rw[hj'.1];trivial);refine⟨ek,?_,by rw[hEj];exact hn,?_⟩
    ·rw [hSN j hU, hEj]; exact hsub
    rw[hEj];rcases hb with hb | ⟨b,cap,vs,T,h1,h2,h3,h4,h5,h6,h7,h8⟩
    ·exact .inl hb
    have hlt':b<w.heap.size:=(oI.1 h4).1;refine .inr ⟨b,cap,vs,T,h1,h2,h3,by rw[keepb b h1 hlt'];exact h4,h5,h6,h7,fun k hk'=>?_⟩;exact(h8 k hk').keep hs (fun hr b' hb'=>keepo b' (.inr ⟨hmul,(hsub.iff b').2 ⟨k,hk',hr,hb'⟩⟩)) hk hx (ou _) fun id hid=>hE id (h.wfn j wd cl sz n rows k id hj'.1 hk' hid)
 ·intro j k b hj hk';rcases hat j b hj with ⟨x, hU, h1⟩ | ⟨hU, hK, h1⟩ <;> rcases hat k b hk' with ⟨y, hV, h2⟩ | ⟨hV, hK', h2⟩
  ·exact huu j k x y b hU hV h1 h2
  ·rcases hown j x b hU h1 with h3 | ⟨m, hm, h4⟩
   ·have := h.olt h2; omega
   have:=h.injA m k b h4 h2;subst this;rcases hm with h6 | h6
   ·exact absurd hV h6
   rw[hK'] at h6;cases h6
  ·rcases hown k y b hV h2 with h3 | ⟨m, hm, h4⟩
   ·have := h.olt h1; omega
   have:=h.injA m j b h4 h1;subst this;rcases hm with h6 | h6
   ·exact absurd hU h6
   rw[hK] at h6;cases h6
  exact h.injA j k b h1 h2
 ·intro j hj;rcases hlive j hj with ⟨x, hU⟩ | ⟨_, _, h1⟩
  ·simp [FS.setF, hU]
  simp[FS.setF,h.live j h1]
 ·intro t lv id ht hm;simp [FS.setF, h.wfs t lv id ht hm]
 ·intro j cells lv id hj hl hm;cases hU : U j with
  |some x =>
   obtain⟨c,ei⟩:=x;simp only[FS.setF,hU,oo] at hj;subst hj;rcases hwf j cells ei lv id hU hl hm with h1 | h1
   ·obtain ⟨y, hy⟩ := oN.1 h1;simp [FS.setF, hy]
   simp[FS.setF,h1]
  |none =>
   have hj' : σ.blk j = some (.var cells) := by
    simp only[FS.setF,hU] at hj;cases hK:K j with
    |true =>simp[hK] at hj
    |false =>simpa only[hK,oT,if_false] using hj
   simp[FS.setF,h.wfb j cells lv id hj' hl hm]
 ·intro j wd cl sz n rows k id hj hk' hr;cases hU : U j with
  |some x =>
   obtain⟨c,ei⟩:=x;simp only[FS.setF,hU,oo] at hj;subst hj;rcases hwn j wd cl sz n rows ei k id hU hk' hr with h1 | h1
   ·obtain ⟨y, hy⟩ := oN.1 h1;simp [FS.setF, hy]
   simp[FS.setF,h1]
  |none =>
   have hj' : σ.blk j = some (.nest wd cl sz n rows) := by
    simp only[FS.setF,hU] at hj;cases hK:K j with
    |true =>simp[hK] at hj
    |false =>simpa only[hK,oT,if_false] using hj
   simp[FS.setF,h.wfn j wd cl sz n rows k id hj' hk' hr]
 ·intro b o hb;obtain ⟨h1, h2⟩ := h.baseA b o hb;have hbl : b < w.heap.size := (oI.1 h1).1;refine ⟨by rw [hw b hbl fun j _ hj => h2 j hj]; exact h1, fun i hi => ?_⟩;rcases hat i b hi with ⟨x, hU, h3⟩ | ⟨_, _, h3⟩
  ·rcases hown i x b hU h3 with h4 | ⟨k, _, h4⟩
   ·omega
   exact h2 k h4
  exact h2 i h3
 intro i ei hi hb;have h9 : 900000 ≤ i := by
  rcases oY i 900000 with h | h
  ·rw [X0.low i h] at hi; cases hi
  exact h
 rw[hE i (h.pu i h9)];rcases hlive i hb with⟨x,hU⟩ | ⟨_,_,h3⟩
 ·rcases hu i x hU with h4 | ⟨_, h4⟩
  ·rw [h.pu i h9] at h4; cases h4
  exact h.pin i ei hi h4
 exact h.pin i ei hi h3

theorem Sat.setF{N : Nat}{w0 : World}{X0 : Fr}{σ : FS}{E : Env}{a : Act}{w w' : World}(h : Sat N w0 X0 σ E a w)(K : Nat → Bool)(U : Nat → Option (BC × EI))(hu : ∀i x, U i = some x → σ.used i = false ∨ (x.2 = E i ∧ σ.blk i ≠ none))(hs : w.heap.size ≤ w'.heap.size)(hw : ∀b, b < w.heap.size → (∀j, (U j ≠ none ∨ K j = true) → σ.blk j ≠ none → (E j).b ≠ some b) → w'.heap[b]? = w.heap[b]?)(hown : ∀i x b, U i = some x → x.2.b = some b → w.heap.size ≤ b ∨ ∃j, (U j ≠ none ∨ K j = true) ∧ σ.blk j ≠ none ∧ (E j).b = some b)(huu : ∀i j x y b, U i = some x → U j = some y → x.2.b = some b → y.2.b = some b → i = j)(hbelow : Below w0.heap.size w0 w')(hwf : ∀i cells ei lv id, U i = some (.var cells, ei) → lv ∈ cells → Ment lv id → U id ≠ none ∨ σ.used id = true)(hnm : ∀i x, U i = some x → ¬Mul (some x.1))(hok : ∀i x, U i = some x → BlkOk w' w0.heap.size (Own (σ.setF K U) (E.setF U) X0) (E.setF U) i x.1) : Sat N w0 X0 (σ.setF K U) (E.setF U) a w' := by
 refine h.setFS K U (fun _ _=>False) hu hs (fun b hb hh=>hw b hb fun j hj hn he=>hh j hj (.inl ⟨hn,he⟩)) ?_ ?_ hbelow hwf (fun i wd cl sz n rows ei k id hU=>absurd trivial (hnm i _ hU)) hok
 ·intro i x b hU hb;rcases hb with hb | ⟨hm, _⟩
  ·rcases hown i x b hU hb with h1 | ⟨j, h1, h2, h3⟩
   ·grind
   exact .inr ⟨j,h1,.inl ⟨h2,h3⟩⟩
  grind
 grind

theorem Sat.xlt{N:Nat}{w0:World}{X0:Fr}{σ:FS}{E:Env}{a:Act}{w:World}(h:Sat N w0 X0 σ E a w){b:Nat}(hb:X0.own b):b<w.heap.size:=by obtain⟨o,ho⟩:=h.bown b hb;exact(oI.1 (h.base b o ho).1).1
theorem Sat.xneA{N:Nat}{w0:World}{X0:Fr}{σ:FS}{E:Env}{a:Act}{w:World}(h:Sat N w0 X0 σ E a w){b:Nat}(hb:X0.own b){i:Nat}:¬OwnAt σ.blk E i b:=by obtain⟨o,ho⟩:=h.bown b hb;exact(h.baseA b o ho).2 i
theorem Sat.xne{N:Nat}{w0:World}{X0:Fr}{σ:FS}{E:Env}{a:Act}{w:World}(h:Sat N w0 X0 σ E a w){b:Nat}(hb:X0.own b){i:Nat}(hi:σ.blk i≠none):(E i).b≠some b:=by obtain⟨o,ho⟩:=h.bown b hb;exact(h.base b o ho).2 i hi
def one(i:Nat)(c:BC)(ei:EI):Nat→Option (BC×EI):=fun j=>if j=i then some (c,ei) else none
theorem zbz{i j:Nat}{c:BC}{ei:EI}{x:BC×EI}(h:one i c ei j=some x):j=i∧x=(c,ei):=by unfold one at h;grind
theorem one_ne{i j:Nat}{c:BC}{ei:EI}:one i c ei j≠none↔j=i:=by unfold one;by_cases e:j=i<;>simp[e]

theorem zu3{c:List LV}:¬Mul (some (.var c)):=fun h=>h
theorem zdv{sz n:Nat}{row:Nat→List LV}:¬Mul (some (.arr sz n row)):=fun h=>h
theorem zpg{σ : FS}{E : Env}{X0 : Fr}{K : Nat → Bool}{i : Nat}{c : BC}{ei : EI}(hc : ¬Mul (some c)){b : Nat}(h : Own (σ.setF K (one i c ei)) (E.setF (one i c ei)) X0 b) : Own σ E X0 b ∨ ei.b = some b := by
 rcases h with h | ⟨k,hk⟩
 ·exact .inl (.inl h)
 by_cases e:k=i
 ·subst e;rcases hk with ⟨_, hk⟩ | ⟨hm, _⟩
  ·exact .inr (by simpa [Env.setF, one] using hk)
  exact absurd (by simpa[FS.setF,one] using hm) hc
 have hb:(σ.setF K (one i c ei)).blk k=if K k=true then none else σ.blk k:=by simp[FS.setF,one,e]
 have hE:(E.setF (one i c ei)) k=E k:=by simp[Env.setF,one,e]
 have hS:(E.setF (one i c ei)).s k=E.s k:=by simp[Env.setF,one,e]
 cases hK:K k with
 |true =>rw[hK] at hb;exact absurd hb hk.ne
 |false =>
  rw[hK] at hb;refine .inl (.inr ⟨k,?_⟩);rcases hk with⟨h1,h2⟩ | ⟨h1,h2⟩
  ·rw [hb] at h1; rw [hE] at h2; exact .inl ⟨h1, h2⟩
  rw[hb] at h1;rw[hS] at h2;exact .inr ⟨h1,h2⟩

theorem Sat.set{N : Nat}{w0 : World}{X0 : Fr}{σ : FS}{E : Env}{a : Act}{w w' : World}(h : Sat N w0 X0 σ E a w)(K : Nat → Bool)(i : Nat)(c : BC)(ei : EI)
    (hi:σ.used i=false∨(ei=E i∧σ.blk i≠none))
    (hs:w.heap.size≤w'.heap.size)
    (hw:∀b,b<w.heap.size→(∀j,(j=i∨K j=true)→σ.blk j≠none→(E j).b≠some b)→w'.heap[b]?=w.heap[b]?)
    (hown:∀b,ei.b=some b→w.heap.size≤b∨∃j,(j=i∨K j=true)∧σ.blk j≠none∧(E j).b=some b)
    (hbelow:Below w0.heap.size w0 w')
    (hwf:∀cells lv id,c=.var cells→lv∈cells→Ment lv id→id=i∨σ.used id=true)
    (hok:BlkOk w' w0.heap.size (Own (σ.setF K (one i c ei)) (E.setF (one i c ei)) X0) (E.setF (one i c ei)) i c) (hnm:¬Mul (some c):=by exact fun h=>h) :
    Sat N w0 X0 (σ.setF K (one i c ei)) (E.setF (one i c ei)) a w':=by
  refine h.setF K (one i c ei) ?_ hs ?_ ?_ ?_ hbelow ?_ (fun j x hj=>by obtain⟨rfl,rfl⟩:=zbz hj;exact hnm) ?_
  · intro j x hj
    obtain⟨rfl,rfl⟩:=zbz hj
    exact hi
  · intro b hb hh
    exact hw b hb fun j hj=>hh j (hj.imp one_ne.2 id)
  · intro j x b hj hb
    obtain⟨rfl,rfl⟩:=zbz hj
    grind
  · intro j k x y b hj hk _ _
    exact(zbz hj).1.trans (zbz hk).1.symm
  · intro j cells ei' lv id hj hl hm
    obtain⟨rfl,e⟩:=zbz hj
    grind
  · intro j x hj
    obtain⟨rfl,rfl⟩:=zbz hj
    exact hok

theorem Sat.grow{N : Nat}{w0 : World}{X0 : Fr}{σ : FS}{E : Env}{a : Act}{w w' : World}(h : Sat N w0 X0 σ E a w)(hb : Below w.heap.size w w') : Sat N w0 X0 σ E a w' := by
 have hsz:w0.heap.size≤w.heap.size:=h.below.size;have hk:∀b,b<w.heap.size→¬Own σ E X0 b→w'.heap[b]?=w.heap[b]?:=fun b hlt _=>hb.block b hlt;refine⟨h.size,h.defers,h.below.trans (hb.mono hsz),fun t lv ht=>(h.slots t lv ht).keep hb.size hk (fun b hx=>.inl hx) (fun _ _=>rfl),?_,h.injA,h.live,h.wfs,h.wfb,h.wfn,fun b o hb'=>⟨by rw[hb.block b (oI.1 (h.baseA b o hb').1).1];exact(h.baseA b o hb').1,(h.baseA b o hb').2⟩,h.bown,h.pin,h.pu,yM h.szf hb.size,h.gh,h.xge⟩;intro i c hi;have hbk:=h.blks i c hi;cases c with
 |bld T e s =>have hmul:Mul (σ.blk i):=(by rw[hi];trivial);obtain⟨b,v,p,h1,h2,h3⟩:=hbk;exact⟨b,v,p,h1,h2.keep (hb.block b h2.lt) (fun g hg=>hb.block g (h.olt (.inr ⟨hmul,(h3 g).2 hg⟩))) (ou _),h3⟩
 |var cells =>obtain⟨b,vs,T,h1,h2,h3,h4,h5⟩:=hbk;have hlt:b<w.heap.size:=(oI.1 h3).1;exact⟨b,vs,T,h1,h2,by rw[hb.block b hlt];exact h3,h4,fun m lv v hl hv=>(h5 m lv v hl hv).keep hb.size hk (fun b hx=>.inl hx) (fun _ _=>rfl)⟩
 |mp kd m =>obtain⟨b,es,ck,h1,h2,h3,h4⟩:=hbk;have hlt:b<w.heap.size:=(oI.1 h3).1;exact⟨b,es,ck,h1,h2,by rw[hb.block b hlt];exact h3,h4⟩
 |arr sz n row =>
  obtain⟨hn,hbk⟩:=hbk;refine⟨hn,?_⟩;rcases hbk with hbk | ⟨b,cap,vs,T,h1,h2,h3,h4,h5,h6,h7,h8⟩
  ·grind
  have hlt:b<w.heap.size:=(oI.1 h4).1;exact .inr ⟨b,cap,vs,T,h1,h2,h3,by rw[hb.block b hlt];exact h4,h5,h6,h7,fun k hk'=>⟨(h8 k hk').1,(h8 k hk').2.1,fun m lv v hl hv=>((h8 k hk').2.2 m lv v hl hv).keep hb.size hk (fun b hx=>.inl hx) (ou _)⟩⟩
 |nest wd cl sz n rows =>
  obtain⟨ek,hsub,hn,hbk2⟩:=hbk;have hmul:Mul (σ.blk i):=by rw[hi];trivial
  refine⟨ek,hsub,hn,?_⟩;rcases hbk2 with hbk | ⟨b,cap,vs,T,h1,h2,h3,h4,h5,h6,h7,h8⟩
  ·exact .inl hbk
  have hlt:b<w.heap.size:=(oI.1 h4).1;exact .inr ⟨b,cap,vs,T,h1,h2,h3,by rw[hb.block b hlt];exact h4,h5,h6,h7,fun k hk'=>(h8 k hk').keep hb.size (fun hr b' hb'=>hb.block b' (h.olt (.inr ⟨hmul,(hsub.iff b').2 ⟨k,hk',hr,hb'⟩⟩))) hk (fun b hx=>.inl hx) (ou _) fun _ _=>rfl⟩

def FS.upd(σ : FS)(K : Nat → Bool)(ub : Nat → Option BC) : FS :=
  { σ with blk:=fun j=>match ub j with | some c=>some c | none=>if K j=true then none else σ.blk j,used:=fun j=>(ub j).isSome||σ.used j }
theorem FS.setF_eq (σ : FS) (K : Nat → Bool) (U : Nat → Option (BC × EI)) : σ.setF K U = σ.upd K fun j => (U j).map (·.1) := by unfold FS.setF FS.upd;grind
def oneB(i:Nat)(c:BC):Nat→Option BC:=fun j=>if j=i then some c else none
theorem za6 (i : Nat) (c : BC) (ei : EI) : (fun j => (one i c ei j).map (·.1)) = oneB i c := by funext j; unfold one oneB; by_cases e : j = i <;> simp [e]
def noK:Nat→Bool:=fun _=>false

theorem zd2{σ:FS}{E:Env}{X0:Fr}{K:Nat→Bool}{i:Nat}{c:BC}{ei:EI}(hc:¬Mul (some c)){b:Nat}(h:Own (σ.upd K (oneB i c)) (E.setF (one i c ei)) X0 b):Own σ E X0 b∨ei.b=some b:=by rw[←za6 i c ei,←FS.setF_eq] at h;exact zpg hc h
section new
variable {N:Nat} {w0:World} {X0:Fr} {σ:FS} {E:Env} {a:Act} {w:World}
theorem Sat.newVar(h : Sat N w0 X0 σ E a w){i : Nat}(hi : σ.used i = false)(vs : Array Value)(T : TypeId)(cells : List LV)(hl : vs.size = cells.length)(hr : ∀(j : Nat) lv v, cells[j]? = some lv → vs[j]? = some v → RepV w w0.heap.size (Own σ E X0) E lv v)(hm : ∀lv ∈ cells, ∀id, Ment lv id → σ.used id = true) : ∃E', (E' i).b = some w.heap.size ∧ Sat N w0 X0 (σ.upd noK (oneB i (.var cells))) E' a (w.alloc (.cells vs T)) := by
 have hh:∀b,b<w.heap.size→(w.alloc (.cells vs T)).heap[b]?=w.heap[b]?:=fun b hb=>Below.heap_alloc _ _ _ hb;refine⟨E.setF (one i (.var cells) ⟨some w.heap.size,0,none,0,0,0⟩),vbw,?_⟩;rw[←za6 i (.var cells) ⟨some w.heap.size,0,none,0,0,0⟩,←FS.setF_eq];refine h.set noK i (.var cells) _ (.inl hi) vbZ (fun b hb _=>hh b hb) (fun b hb=>.inl (by simp at hb;omega)) (h.below.alloc h.below.size _) (fun c lv id hc hlv hmm=>?_) ?_
 ·grind
 refine⟨w.heap.size,vs,T,vbw,h.below.size,heap_alloc_new w _,hl,fun j lv v hj hv=>?_⟩;refine(hr j lv v hj hv).keep vbZ (fun b hb _=>hh b hb) (fun b hb=>?_) fun id hmm=>?_
 ·rcases zpg zu3 hb with hb | hb
  ·grind
  grind
 have hu:=hm lv (oW hj) id hmm;have e:id≠i:=vbY
 simp[Env.setF,one,e]

theorem Sat.newArr(h : Sat N w0 X0 σ E a w){i : Nat}(hi : σ.used i = false)(vs : Array Value)(T : TypeId)(sz n cap : Nat)(row : Nat → List LV)(hn : n ≤ cap)(hcap : cap ≤ maxLen)(hl : cap * sz ≤ vs.size)(hsz : ∀k, k < n → (row k).length = sz)(ho : ∀k, k < n → ∀lv ∈ row k, isOne lv = true)(hr : ∀k, k < n → ∀(j : Nat) lv v, (row k)[j]? = some lv → vs[k * sz + j]? = some v → RepC w w0.heap.size (Own σ E X0) lv v) : ∃E', (E' i).b = some w.heap.size ∧ (E' i).val = .slice (some ⟨w.heap.size, 0, none⟩) n cap ∧ Sat N w0 X0 (σ.upd noK (oneB i (.arr sz n row))) E' a (w.alloc (.cells vs T)) := by
 have hh:∀b,b<w.heap.size→(w.alloc (.cells vs T)).heap[b]?=w.heap[b]?:=fun b hb=>Below.heap_alloc _ _ _ hb;refine⟨E.setF (one i (.arr sz n row) ⟨some w.heap.size,0,some ⟨w.heap.size,0,none⟩,n,cap,n⟩),vbw,by simp[Env.setF,one,EI.val],?_⟩;rw[←za6 i (.arr sz n row) ⟨some w.heap.size,0,some ⟨w.heap.size,0,none⟩,n,cap,n⟩,←FS.setF_eq];refine h.set noK i (.arr sz n row) _ (.inl hi) vbZ (fun b hb _=>hh b hb) (fun b hb=>.inl (by simp at hb;omega)) (h.below.alloc h.below.size _) (fun c lv id hc hlv hmm=>?_) ?_
 ·cases hc
 refine⟨vbw,.inr ⟨w.heap.size,cap,vs,T,vbw,by simp[Env.setF,one,EI.val],h.below.size,heap_alloc_new w _,hn,hcap,by simpa[Env.setF,one] using hl,fun k hk=>⟨hsz k hk,ho k hk,fun j lv v hj hv=>?_⟩⟩⟩;have hv':vs[k * sz+j]?=some v:=by simpa[Env.setF,one] using hv
 refine(hr k hk j lv v hj hv').keep vbZ (fun b hb _=>hh b hb) (fun b hb=>?_) (ou _);rcases zpg zdv hb with hb | hb
 ·grind
 grind

theorem Sat.newMap(h:Sat N w0 X0 σ E a w){i:Nat}(hi:σ.used i=false)(kd:KD)(m:MV)(es:Array MapEntry)(ck:Nat)(hm:MapOk kd m es):∃E',(E' i).b=some w.heap.size∧Sat N w0 X0 (σ.upd noK (oneB i (.mp kd m))) E' a (w.alloc (.map es ck)):=by have hh:∀b,b<w.heap.size→(w.alloc (.map es ck)).heap[b]?=w.heap[b]?:=fun b hb=>Below.heap_alloc _ _ _ hb;refine⟨E.setF (one i (.mp kd m) ⟨some w.heap.size,0,none,0,0,0⟩),vbw,?_⟩;rw[←za6 i (.mp kd m) ⟨some w.heap.size,0,none,0,0,0⟩,←FS.setF_eq];refine h.set noK i (.mp kd m) _ (.inl hi) vbZ (fun b hb _=>hh b hb) (fun b hb=>.inl (by simp at hb;omega)) (h.below.alloc h.below.size _) (fun c lv id hc hlv hmm=>vbR) ?_;exact⟨w.heap.size,es,ck,vbw,h.below.size,heap_alloc_new w _,hm⟩
end new
section weak
variable {N:Nat} {w0:World} {X0:Fr} {σ:FS} {E:Env} {a:Act} {w:World}
theorem BlkOk.sub{B : Nat}{X X' : Nat → Prop}{i : Nat}{c : BC}(h : BlkOk w B X E i c)(hx : ∀b, X' b → X b) : BlkOk w B X' E i c := by
 cases c with
 |bld T e s =>exact h
 |var cells =>obtain⟨b,vs,T,h1,h2,h3,h4,h5⟩:=h;exact⟨b,vs,T,h1,h2,h3,h4,fun j lv v hl hv=>(h5 j lv v hl hv).keep (ou _) (fun _ _ _=>rfl) (fun b hb=>.inl (hx b hb)) fun _ _=>rfl⟩
 |mp kd m =>exact h
 |nest wd cl sz n rows =>
  obtain⟨ek,h1,h2,h3⟩:=h;refine⟨ek,h1,h2,?_⟩;rcases h3 with h1 | ⟨b,cap,vs,T,h1,h2,h3,h4,h5,h6,h7,h8⟩
  ·grind
  exact .inr ⟨b,cap,vs,T,h1,h2,h3,h4,h5,h6,h7,fun k hk=>(h8 k hk).keep (ou _) (fun _ _ _=>rfl) (fun _ _ _=>rfl) (fun b hb=>.inl (hx b hb)) (ou _) fun _ _=>rfl⟩
 |arr sz n row =>
  refine⟨h.1,?_⟩;rcases h.2 with h1 | ⟨b,cap,vs,T,h1,h2,h3,h4,h5,h6,h7,h8⟩
  ·exact .inl h1
  exact .inr ⟨b,cap,vs,T,h1,h2,h3,h4,h5,h6,h7,fun k hk=>⟨(h8 k hk).1,(h8 k hk).2.1,fun j lv v hl hv=>((h8 k hk).2.2 j lv v hl hv).keep (ou _) (fun _ _ _=>rfl) (fun b hb=>.inl (hx b hb)) (ou _)⟩⟩

theorem OwnAt.sub{f g : Nat → Option BC}{E : Env}(hb : ∀i c, f i = some c → g i = some c){i b : Nat}(h : OwnAt f E i b) : OwnAt g E i b := by
 obtain⟨c,hc⟩:=oN.1 h.ne;have e:=hb i c hc;rcases h with⟨_,h⟩ | ⟨hm,h⟩
 ·exact .inl ⟨by rw [e]; simp, h⟩
 rw[hc] at hm;exact .inr ⟨by rw[e];exact hm,h⟩
theorem Own.sub{σ' : FS}(hb : ∀i c, σ'.blk i = some c → σ.blk i = some c) : ∀b, Own σ' E X0 b → Own σ E X0 b := by
 intro b h;rcases h with h | ⟨i,hi⟩
 ·exact .inl h
 exact .inr ⟨i,hi.sub hb⟩

theorem Sat.weaken(h : Sat N w0 X0 σ E a w)(σ' : FS)(hs : ∀t lv, σ'.slot t = some lv → σ.slot t = some lv)(hb : ∀i c, σ'.blk i = some c → σ.blk i = some c)
    (hu:∀i,σ.used i=true→σ'.used i=true):Sat N w0 X0 σ' E a w where
  size:=h.size
  defers:=h.defers
  below:=h.below
  slots:=fun t lv ht=>(h.slots t lv (hs t lv ht)).keep (ou _) (fun _ _ _=>rfl) (fun b hx=>.inl (Own.sub hb b hx)) fun _ _=>rfl
  blks:=fun i c hi=>(h.blks i c (hb i c hi)).sub (Own.sub hb)
  injA:=fun i j b hi hj=>h.injA i j b (hi.sub hb) (hj.sub hb)
  live := fun i hi => by
    obtain⟨c,hc⟩:=oN.1 hi
    exact hu i (h.live i (by rw[hb i c hc];simp))
  wfs:=fun t lv id ht hm=>hu id (h.wfs t lv id (hs t lv ht) hm)
  wfb:=fun i cells lv id hi hl hm=>hu id (h.wfb i cells lv id (hb i _ hi) hl hm)
  wfn:=fun i wd cl sz n rows k id hi hk hr=>hu id (h.wfn i wd cl sz n rows k id (hb i _ hi) hk hr)
  baseA:=fun b o hb'=>⟨(h.baseA b o hb').1,fun i hi=>(h.baseA b o hb').2 i (hi.sub hb)⟩
  bown:=h.bown
  pin := fun i ei hp hi => by
    obtain⟨c,hc⟩:=oN.1 hi
    exact h.pin i ei hp (by rw[hb i c hc];simp)
  pu:=fun i hi=>hu i (h.pu i hi)
  szf:=h.szf
  gh:=h.gh
  xge:=h.xge
end weak
end Go.Lite
namespace Go.Lite
open Go Go.RowKit
open _root_.Nat renaming beq→yv

def All : List Prop → Prop
  |[]=>True
  |p :: r=>p∧All r
theorem All.append{l r : List Prop} : All (l ++ r) ↔ All l ∧ All r := by
 induction l with
 |nil =>simp[All]
 |cons p l ih =>simp[All,ih,and_assoc]
theorem All.map_imp{c : Prop}{l : List Prop}(h : All (l.map fun p => c → p))(hc : c) : All l := by
 induction l with
 |nil =>trivial
 |cons p l ih =>exact⟨h.1 hc,ih h.2⟩

def inR : IntKind → Int → Prop
  |.i8,n=>-128≤n∧n≤127
  |.i16,n=>-32768≤n∧n≤32767
  |.i32,n=>-2147483648≤n∧n≤2147483647
  |.i64,n=>-9223372036854775808≤n∧n≤9223372036854775807
  |.u8,n=>0≤n∧n≤255
  |.u16,n=>0≤n∧n≤65535
  |.u32,n=>0≤n∧n≤4294967295
  |.u64,n=>0≤n∧n≤18446744073709551615
theorem zbn{k:IntKind}{n:Int}(h:inR k n):k.wrap n=n:=by cases k<;>simp only[inR] at h<;>simp[IntKind.wrap,IntKind.signed,IntKind.bits]<;>omega

inductive Hint where
  |no
  |wrap
  |res (r:LV) (arrs:List BC)
  |nst (cl:Bool) (n:Nat) (rows:Nat→NR)
  |nstM (sz n:Nat) (rows:Nat→NR)
  |take (g:Bool) (n:Nat) (row:Nat→List LV) (rows:Nat→NR)
  |elt (pre:List LV) (n:Nat) (row:Nat→List LV) (rows:Nat→NR)
  |row (row:Nat→List LV)
  |rowN (id n:Nat) (row:Nat→List LV)
  |rowW (id n:Nat) (row:Nat→List LV)
  |resM (d:Nat) (ids:List Nat) (rbl:List (Nat×BC)) (r:LV)
  |ints (l:List Int)
  |gT (h:Hint)
  |gF

def strip : LV → LV × List Prop
  |.whn b v=>(v,[b=true])
  |v=>(v,[])

def ofVal : Value → Option LV
  |.int k n=>some (.int k n)
  |.bool b=>some (.bool b)
  |.string s=>some (.str s.data.toList)
  |.slice none 0 0=>some .nilS
  |.map none=>some .nilM
  |.pointer none=>some .nilP
  |.nilIface=>some (.er false)
  |.nilFunc=>some .fv
  |_=>none
def zir : List Value → Option (List LV)
  |[]=>some []
  | v :: r => match ofVal v, zir r with
    |some x,some xs=>some (x :: xs)
    |_,_=>none
def zpk : Value → Option LV
  |.agg cs=>(zir cs.toList).map .agg
  |v=>ofVal v
def cellsOf : LV → List LV
  |.agg l=>l
  |v=>[v]

def ev(sl : Nat → Option LV) : Operand → Option (LV × List Prop)
  |.tmp t=>(sl t).map strip
  |.const v=>(zpk v).map fun x=>(x,[])
  |.func f=>some (.fn f,[])
  |.global g=>(gRow g).map fun r=>(.ep r 0,[])

def aggOf(P : Program)(T : TypeId) : Option Bool :=
  match P.underlying T with
  |some (.struct _)|some (.array _ _)=>some true
  |some _=>some false
  |none=>none
def szOf (P : Program) (T : TypeId) : Option Nat := (P.info? T).map (·.size)
def loadL(P : Program)(T : TypeId)(row : List LV)(off : Nat) : Option LV :=
  match aggOf P T,szOf P T with
  |some true,some n=>bif Nat.ble (off+n) row.length then some (.agg ((row.drop off).take n)) else none
  |some false,_=>row[off]?
  |_,_=>none
def zje(P : Program)(T : TypeId)(f : Nat) : Option Nat :=
  match P.underlying T with
  | some (.struct fs) => match fs[f]? with
    | some fl => match szOf P fl.type with
      |some (_+1)=>some fl.offset
      |_=>none
    |none=>none
  |_=>none
def zne : List LV → Option (List Bool)
  |[]=>some []
  | .bool b :: r => (zne r).map (b :: ·)
  |_=>none
def zqz : List LV → Option (List (List UInt8))
  |[]=>some []
  | .str b :: r => (zqz r).map (b :: ·)
  |_=>none
def binL(op : BinOp)(wr : Bool)(x y : LV) : Option (LV × List Prop) :=
  match x,y with
  | .int k a, .int k' b => bif decide (k = k') then
      match op with
      |.add=>bif wr then some (.int k (k.wrap (a+b)),[]) else some (.int k (a+b),[inR k (a+b)])
      |.sub=>bif wr then some (.int k (k.wrap (a - b)),[]) else some (.int k (a - b),[inR k (a - b)])
      |.mul=>bif wr then some (.int k (k.wrap (a * b)),[]) else some (.int k (a * b),[inR k (a * b)])
      |.quo=>bif wr then some (.int k (k.wrap (a.tdiv b)),[b≠0]) else some (.int k (a.tdiv b),[b≠0,inR k (a.tdiv b)])
      |.rem=>some (.int k (a.tmod b),[b≠0])
      |.eql=>some (.bool (decide (a=b)),[])
      |.neq=>some (.bool (!decide (a=b)),[])
      |.lss=>some (.bool (decide (a<b)),[])
      |.leq=>some (.bool (decide (a≤b)),[])
      |.gtr=>some (.bool (decide (b<a)),[])
      |.geq=>some (.bool (decide (b≤a)),[])
      |.and=>some (.int k (bits .and k a b),[])
      |.or=>some (.int k (bits .or k a b),[])
      |.xor=>some (.int k (bits .xor k a b),[])
      |.shl=>bif wr then some (.int k (k.wrap (a * 2 ^ b.toNat)),[0≤b∧b≤k.bits]) else some (.int k (a * 2 ^ b.toNat),[0≤b∧b≤k.bits,inR k (a * 2 ^ b.toNat)])
      |.shr=>some (.int k (a / 2 ^ b.toNat),[0≤b∧b≤k.bits])
      |_=>none
    else match op with
      |.shl=>bif wr then some (.int k (k.wrap (a * 2 ^ b.toNat)),[0≤b∧b≤k.bits]) else some (.int k (a * 2 ^ b.toNat),[0≤b∧b≤k.bits,inR k (a * 2 ^ b.toNat)])
      |.shr=>some (.int k (a / 2 ^ b.toNat),[0≤b∧b≤k.bits])
      |_=>none
  | .str a, .str b => match op with
    |.add=>some (.str (a++b),[((a.length+b.length:Nat):Int)≤9223372036854775807])
    |.eql=>some (.bool (a==b),[])
    |.neq=>some (.bool (!(a==b)),[])
    |.lss=>some (.bool (Op.bytesLess a b),[])
    |.leq=>some (.bool (Op.bytesLess a b||a==b),[])
    |.gtr=>some (.bool (!(Op.bytesLess a b||a==b)),[])
    |.geq=>some (.bool (!Op.bytesLess a b),[])
    |_=>none
  |_,_=>none
def eqFs(P : Program)(l m : List LV) : List Field → Option Bool
  |[]=>some true
  | f :: fs => match aggOf P f.type, P.underlying f.type, l[f.offset]?, m[f.offset]?, eqFs P l m fs with
    | some false, some (.int _), some (.int k a), some (.int k' b), some c => bif decide (k = k') && !decide (f.name = "_") then some (decide (a = b) && c) else none
    | some false, some .bool, some (.bool a), some (.bool b), some c => bif !decide (f.name = "_") then some ((a == b) && c) else none
    | some false, some .string, some (.str a), some (.str b), some c => bif !decide (f.name = "_") then some ((a == b) && c) else none
    |_,_,_,_,_=>none
def eqOk(P:Program)(T:TypeId):Bool:=!P.stoodInHeld T&&!P.eqGuardType P.depth T
def binB(P : Program)(op : BinOp)(T : TypeId)(x y : LV) : Option LV :=
  match x,y,P.underlying T,op with
  |.bool a,.bool b,some .bool,.eql=>some (.bool (a==b))
  |.bool a,.bool b,some .bool,.neq=>some (.bool (!(a==b)))
  |.agg l,.agg m,some (.struct fs),.eql=>bif eqOk P T then(eqFs P l m fs.toList).map .bool else none
  |.agg l,.agg m,some (.struct fs),.neq=>bif eqOk P T then(eqFs P l m fs.toList).map fun b=>.bool (!b) else none
  |_,_,_,_=>none
def zvn : Operand → Bool
  |.const .nilIface=>true
  |_=>false
def binN(P : Program)(op : BinOp)(T : TypeId)(x : LV)(y : Bool) : Option LV :=
  match x,y,P.underlying T,op with
  |.er b,true,some (.interface _),.eql=>some (.bool (!b))
  |.er b,true,some (.interface _),.neq=>some (.bool b)
  |_,_,_,_=>none
def maxL(mx : Bool)(k : IntKind)(a : Int) : List LV → Option LV
  |[]=>some (.int k a)
  |.int _ b :: r=>bif mx then maxL mx k (Max.max a b) r else maxL mx k (Min.min a b) r
  |_=>none
def evs(sl : Nat → Option LV) : List Operand → Option (List LV × List Prop)
  |[]=>some ([],[])
  | o :: r => match ev sl o, evs sl r with
    |some (x,p),some (xs,q)=>some (x :: xs,p++q)
    |_,_=>none
def lenL(P : Program)(T : TypeId)(blk : Nat → Option BC)(x : LV) : Option Nat :=
  match P.underlying T,x with
  |some .string,.str s=>some s.length
  |some (.slice _),.ro _ _ n _=>some n
  |some (.slice _),.nilS=>some 0
  | some (.slice _), .own id => match blk id with
    |some (.arr _ n _)=>some n
    |some (.nest _ _ _ n _)=>some n
    |_=>none
  |_,_=>none
def zvl : Hint → Bool
  |.wrap=>true
  |_=>false

def vop(P : Program)(o : Oper)(sl : Nat → Option LV)(blk : Nat → Option BC)(h : Hint) : Option (LV × List Prop) :=
  match o.op with
  |.move x|.assign x=>ev sl x
  | .pick c a b => match ev sl c, ev sl a, ev sl b with
    |some (.bool x,p),some (.bool y,q),some (.bool z,r)=>some (.bool (cond x y z),p++(q.map fun t=>x=true→t)++(r.map fun t=>x=false→t))
    |_,_,_=>none
  | .load T x => match ev sl x with
    | some (.vp id off, p) => match blk id with
      |some (.var cells)=>(loadL P T cells off).map fun v=>(v,p)
      |_=>none
    |some (.ep row off,p)=>(loadL P T row off).map fun v=>(v,p)
    | some (.ap id sz i off, p) => match blk id with
      |some (.arr sz' _ row)=>bif yv sz sz' then(loadL P T (row i) off).map fun v=>(v,p) else none
      |_=>none
    |_=>none
  | .fieldAddr T x f => match ev sl x, zje P T f with
    |some (.vp id off,p),some k=>some (.vp id (off+k),p)
    |some (.ep row off,p),some k=>some (.ep row (off+k),p)
    |some (.ap id sz i off,p),some k=>some (.ap id sz i (off+k),p)
    |_,_=>none
  | .indexAddr T x i => match P.underlying T, ev sl x, ev sl i with
    |some (.slice e),some (.ro _ sz n row,p),some (.int _ j,q)=>bif(match szOf P e with|some s=>yv s sz|none=>false) then some (.ep (row j.toNat) 0,p++q++[0≤j∧j<(n:Int)]) else none
    | some (.slice e), some (.own id, p), some (.int _ j, q) => match blk id with
      |some (.arr sz n _)=>bif(match szOf P e with|some s=>yv s sz|none=>false) then some (.ap id sz j.toNat 0,p++q++[0≤j∧j<(n:Int)]) else none
      |some (.nest wd _ _ n _)=>bif(match szOf P e with|some s=>yv s wd|none=>false) then some (.ap id wd j.toNat 0,p++q++[0≤j∧j<(n:Int)]) else none
      |_=>none
    | some (.array n e), some (.ep row off, p), some (.int _ j, q) => match zqz row with
      |some ws=>bif(match szOf P e with|some s=>yv s 1&&yv row.length n&&yv off 0|none=>false) then some (.ep [.str (ws.getD j.toNat [])] 0,p++q++[0≤j∧j<(n:Int)]) else none
      |none=>none
    | some (.array n e), some (.ap id sz i0 off, p), some (.int _ j, q) => match blk id with
      |some (.arr sz' m _)=>bif(match szOf P e with|some s=>yv s sz&&yv sz sz'&&yv i0 0&&yv off 0|none=>false) then some (.ap id sz j.toNat 0,p++q++[0≤j∧j<(n:Int),j<(m:Int)]) else none
      |_=>none
    |_,_,_=>none
  | .index T x i => match P.underlying T, ev sl x, ev sl i with
    |some .string,some (.str s,p),some (.int _ j,q)=>some (.int .u8 ((s.getD j.toNat 0).toNat:Int),p++q++[0≤j∧j<(s.length:Int)])
    | some (.array n e), some (.agg l, p), some (.int _ j, q) => match zne l, aggOf P e, szOf P e with
      |some bs,some false,some 1=>bif yv n bs.length then some (.bool (bs.getD j.toNat false),p++q++[0≤j∧j<(n:Int)]) else none
      |_,_,_=>none
    |_,_,_=>none
  | .binOp op T x y _ => match ev sl x, ev sl y with
    | some (x', p), some (y', q) => match binL op (zvl h) x' y' with
      |some (v,r)=>some (v,p++q++r)
      | none => match binB P op T x' y' with
        |some v=>some (v,p++q)
        |none=>(binN P op T x' (zvn y)).map fun v=>(v,p++q)
    |_,_=>none
  | .unOp .not _ x => match ev sl x with
    |some (.bool b,p)=>some (.bool (!b),p)
    |_=>none
  | .unOp .neg _ x => match ev sl x with
    |some (.int k n,p)=>some (.int k (-n),p++[inR k (-n)])
    |_=>none
  | .extract x i => match ev sl x with
    |some (.tup l,p)=>(l[i]?).map fun v=>(v,p)
    |_=>none
  | .convert S T x => match P.underlying S, P.underlying T, ev sl x with
    |some _,some (.int k),some (.int _ n,p)=>bif zvl h then some (.int k (k.wrap n),p) else some (.int k n,p++[inR k n])
    |_,_,_=>none
  | .nilCheck x => match ev sl x with
    |some (.vp id off,p)=>some (.vp id off,p)
    |some (.ep row off,p)=>some (.ep row off,p)
    |some (.ap id sz i off,p)=>some (.ap id sz i off,p)
    |_=>none
  | .call { callee := .builtin .len, args, argTypes } => match args.toList, argTypes.toList with
    | [x], [T] => match ev sl x with
      |some (x',p)=>(lenL P T blk x').map fun (n:Nat)=>(.int .i64 (n:Int),p)
      |none=>none
    |_,_=>none
  | .call { callee := .builtin .max, args, .. } => match evs sl args.toList with
    |some (.int k a :: r,p)=>(maxL true k a r).map fun v=>(v,p)
    |_=>none
  | .call { callee := .builtin .min, args, .. } => match evs sl args.toList with
    |some (.int k a :: r,p)=>(maxL false k a r).map fun v=>(v,p)
    |_=>none
  |_=>none

end Go.Lite

set_option linter.unusedVariables false
namespace Go.Lite
open Go Go.RowKit
open _root_.Nat renaming zero_add→yA, mul_one→wc, beq→yv
open Go.World renaming cell?→Yj
open _root_.Bool renaming and_eq_true_iff→YW

section inv
variable {w:World} {B:Nat} {X:Nat→Prop} {E:Env} {v:Value}
theorem RepV.int_inv{k:IntKind}{n:Int}(h:RepV w B X E (.int k n) v):v=.int k n:=by cases h with | c _ _ h=>cases h;rfl
theorem RepV.bool_inv{b:Bool}(h:RepV w B X E (.bool b) v):v=.bool b:=by cases h with | c _ _ h=>cases h;rfl
theorem RepV.str_inv{s:List UInt8}(h:RepV w B X E (.str s) v):v=.string ⟨s.toArray⟩:=by cases h with | c _ _ h=>cases h;rfl
theorem RepV.fn_inv{f:Nat}(h:RepV w B X E (.fn f) v):v=.func (.func f) #[] #[]:=by cases h with | c _ _ h=>cases h;rfl
theorem RepV.nilS_inv(h:RepV w B X E .nilS v):v=.slice none 0 0:=by cases h with | c _ _ h=>cases h;rfl
theorem RepV.nilP_inv(h:RepV w B X E .nilP v):v=.pointer none:=by cases h with | c _ _ h=>cases h;rfl
theorem RepV.rm_inv{kd:KD}{m:MV}(h:RepV w B X E (.rm kd m) v):RepC w B X (.rm kd m) v:=by cases h with | c _ _ h=>exact h
theorem RepV.nilM_inv(h:RepV w B X E .nilM v):v=.map none:=by cases h with | c _ _ h=>cases h;rfl
theorem RepV.vp_inv{id off : Nat}(h : RepV w B X E (.vp id off) v) : ∃b, (E id).b = some b ∧ v = .pointer (some ⟨b, off, none⟩) := by
 cases h with
 |c _ _ h =>cases h
 |vp _ _ b hb =>exact⟨b,hb,rfl⟩
theorem RepV.mp_inv{id : Nat}(h : RepV w B X E (.mp id) v) : ∃b, (E id).b = some b ∧ v = .map (some b) := by
 cases h with
 |c _ _ h =>cases h
 |mp _ b hb =>exact⟨b,hb,rfl⟩
theorem RepV.own_inv{id : Nat}(h : RepV w B X E (.own id) v) : v = (E id).val := by
 cases h with
 |c _ _ h =>cases h
 |own =>rfl
theorem RepV.ap_inv{id sz i off : Nat}(h : RepV w B X E (.ap id sz i off) v) : ∃b, (E id).b = some b ∧ i < (E id).n ∧ v = .pointer (some ⟨b, (E id).off + i * sz + off, none⟩) := by
 cases h with
 |c _ _ h =>cases h
 |ap _ _ _ _ b hb hi =>exact⟨b,hb,hi,rfl⟩
theorem RepV.ro_inv{fr:Bool}{sz n:Nat}{row:Nat→List LV}(h:RepV w B X E (.ro fr sz n row) v):RepC w B X (.ro fr sz n row) v:=by cases h with | c _ _ h=>exact h
theorem RepV.ep_inv{row:List LV}{off:Nat}(h:RepV w B X E (.ep row off) v):RepC w B X (.ep row off) v:=by cases h with | c _ _ h=>exact h
theorem RepV.tup_inv{l : List LV}(h : RepV w B X E (.tup l) v) : ∃vs : Array Value, v = .tuple vs ∧ vs.size = l.length ∧ ∀(i : Nat) lv u, l[i]? = some lv → vs[i]? = some u → RepV w B X E lv u := by
 cases h with
 |c _ _ h =>cases h with|tup _ vs hl h=>exact⟨vs,rfl,hl,fun i lv u h1 h2=>.c _ _ (h i lv u h1 h2)⟩
 |tup _ vs hl h =>exact⟨vs,rfl,hl,h⟩
theorem RepV.agg_inv{l : List LV}(h : RepV w B X E (.agg l) v) : ∃vs : Array Value, v = .agg vs ∧ vs.size = l.length ∧ ∀(i : Nat) lv u, l[i]? = some lv → vs[i]? = some u → RepV w B X E lv u := by
 cases h with
 |c _ _ h =>cases h with|agg _ vs hl h=>exact⟨vs,rfl,hl,fun i lv u h1 h2=>.c _ _ (h i lv u h1 h2)⟩
 |agg _ vs hl h =>exact⟨vs,rfl,hl,h⟩
theorem RepV.clo_inv{f : Nat}{l : List LV}(h : RepV w B X E (.clo f l) v) : ∃vs : Array Value, v = .func (.func f) #[] vs ∧ vs.size = l.length ∧ ∀(i : Nat) lv u, l[i]? = some lv → vs[i]? = some u → RepV w B X E lv u := by
 cases h with
 |c _ _ h =>cases h with|clo _ _ vs hl h=>exact⟨vs,rfl,hl,fun i lv u h1 h2=>.c _ _ (h i lv u h1 h2)⟩
 |clo _ _ vs hl h =>exact⟨vs,rfl,hl,h⟩
theorem RepV.k_inv{b o:Nat}(h:RepV w B X E (.k b o) v):v=.pointer (some ⟨b,o,none⟩):=by cases h with | c _ _ h=>cases h;rfl
theorem RepV.er_inv{b:Bool}(h:RepV w B X E (.er b) v):RepC w B X (.er b) v:=by cases h with | c _ _ h=>exact h
theorem RepV.fv_inv(h:RepV w B X E .fv v):RepC w B X .fv v:=by cases h with | c _ _ h=>exact h
theorem RepV.any_inv(h:RepV w B X E .any v):RepC w B X .any v:=by cases h with | c _ _ h=>exact h
theorem RepV.ifc_inv{t : Nat}{lv : LV}(h : RepV w B X E (.ifc t lv) v) : ∃u, v = .iface t u ∧ RepV w B X E lv u := by
 cases h with
 |c _ _ h =>cases h with|ifc _ _ u h=>exact⟨u,rfl,.c _ _ h⟩
 |ifc _ _ u h =>exact⟨u,rfl,h⟩
theorem RepV.strip{lv : LV}(h : RepV w B X E lv v)(ha : All (strip lv).2) : RepV w B X E (strip lv).1 v := by
 unfold Lite.strip at *;split at ha
 ·cases h with
  |c _ _ h =>cases h
  |whn _ _ _ h1 _ =>exact h1 ha.1
 exact h
end inv

theorem zsy{lv : LV}{id : Nat}(h : Ment (strip lv).1 id)(ha : All (strip lv).2) : Ment lv id := by
 unfold Lite.strip at h ha;split at h
 ·exact .whn _ _ _ ha.1 h
 exact h

theorem zn7{w : World}{B : Nat}{X : Nat → Prop}{v : Value}{lv : LV}(h : ofVal v = some lv) : RepC w B X lv v := by
 unfold ofVal at h;split at h<;>first|(cases h;done)|skip
 ·cases h; exact .int _ _
 ·cases h; exact .bool _
 ·cases h;rename_i s;exact .str s.data.toList
 ·cases h; exact .nilS
 ·cases h; exact .nilM
 ·cases h; exact .nilP
 ·cases h; exact .er false _ (fun _ => rfl) (fun h => vbU)
 cases h;exact .fv0
theorem zf1{w : World}{B : Nat}{X : Nat → Prop} : ∀{vs : List Value} {l : List LV}, zir vs = some l → vs.length = l.length ∧ ∀(i : Nat) lv v, l[i]? = some lv → vs[i]? = some v → RepC w B X lv v
  |[],l,h=>by cases h;exact⟨rfl,fun i lv v h=>vbQ⟩
  |x :: r, l, h => by
    simp only[zir] at h
    split at h
    · rename_i y ys h1 h2
      cases h
      obtain⟨h3,h4⟩:=zf1 (w:=w) (B:=B) (X:=X) h2
      refine⟨by simp[h3],fun i lv v hl hv=>?_⟩
      cases i with
      |zero=>simp at hl hv;subst hl;subst hv;exact zn7 h1
      |succ i=>exact h4 i lv v vbG (by simpa using hv)
    · cases h
theorem zpj{w : World}{B : Nat}{X : Nat → Prop}{v : Value}{lv : LV}(h : zpk v = some lv) : RepC w B X lv v := by
 unfold zpk at h;split at h
 ·rename_i cs;cases h1 : zir cs.toList with
  |none =>rw[h1] at h;cases h
  |some l =>rw[h1] at h;cases h;obtain⟨h3,h4⟩:=zf1 (w:=w) (B:=B) (X:=X) h1;exact .agg l cs (by simpa using h3) fun i lv v hl hv=>h4 i lv v hl (by simpa using hv)
 exact zn7 h

section ev
variable {N:Nat} {w0:World} {X0:Fr} {σ:FS} {E:Env} {a:Act} {w:World}
theorem Sat.own_ge(hs : Sat N w0 X0 σ E a w){i g : Nat}(hi : σ.blk i ≠ none)(hib : (E i).b = some g) : w0.heap.size ≤ g := by
 cases hc:σ.blk i with
 |none =>exact absurd hc hi
 |some c =>
  have:=hs.blks i c hc;cases c with
  |bld T e s =>obtain⟨b,v,p,h1,h2,_⟩:=this;rw[hib] at h1;cases h1;exact h2.1
  |var cells =>obtain⟨b,_,_,h1,h2,_⟩:=this;rw[hib] at h1;cases h1;exact h2
  |mp kd m =>obtain⟨b,_,_,h1,h2,_⟩:=this;rw[hib] at h1;cases h1;exact h2
  |arr sz n row =>
   rcases this.2 with h | ⟨b,_,_,_,h1,_,h2,_⟩
   ·grind
   grind
  |nest wd cl sz n rows =>obtain⟨_,_,_,h⟩:=this;grind
theorem Sat.own_geA(hs : Sat N w0 X0 σ E a w){i g : Nat}(hi : OwnAt σ.blk E i g) : w0.heap.size ≤ g := by
 rcases hi with⟨hi,hib⟩ | ⟨hi,hib⟩
 ·exact hs.own_ge hi hib
 rcases zi9 hi with⟨wd,cl,sz,n,rows,hc⟩ | ⟨T,e,s,hc⟩
 ·exact ((hs.blks i _ hc).nestSub hib).2.1
 exact((hs.blks i _ hc).bldSub hib).2.1
theorem zae(hs : Sat N w0 X0 σ E a w){x : Operand}{lv : LV}{p : List Prop}(h : ev σ.slot x = some (lv, p))(ha : All p) : RepV w w0.heap.size (Own σ E X0) E lv (a.eval x) ∧ ∀id, Ment lv id → σ.used id = true := by
 cases x with
 |tmp t =>simp only[ev,oq] at h;obtain⟨y,hy,hyy⟩:=h;have e1:lv=(strip y).1:=(by rw[hyy]);have e2:p=(strip y).2:=(by rw[hyy]);subst e1;subst e2;exact⟨(hs.slots t y hy).strip ha,fun id hm=>hs.wfs t y id hy (zsy hm ha)⟩
 |const v =>simp only[ev,oq] at h;obtain⟨y,hy,hyy⟩:=h;cases hyy;have:=zpj (w:=w) (B:=w0.heap.size) (X:=Own σ E X0) hy;exact⟨.c _ _ this,fun id hm=>absurd hm (this.noMent id)⟩
 |func f =>cases h;exact⟨.c _ _ (.fn f),fun id hm=>vbS⟩
 |global g =>
  simp only[ev,oq] at h;obtain⟨r,hr,he⟩:=h;cases he;obtain⟨h1,cv,h2,h3⟩:=hs.gh.row hr;have hb:=hs.below.block g h1
  have := RepC.ep (w := w) (B := w0.heap.size) (X := Own σ E X0) r 0 ⟨g, 0, none⟩ cv (by have := hs.below.size; show g < w.heap.size; omega) (fun hx => by
    rcases hx with hx | ⟨i,hi⟩
    · have h9:=hs.xge g hx;exact absurd h1 (Nat.not_lt.2 h9)
    · have h9:=hs.own_geA hi;exact absurd h1 (Nat.not_lt.2 h9)) (fun j hj=>by rw [za1,yA];have:=h2 j hj;unfold Yj at this ⊢;simp only at this ⊢;rw [hb];exact this) (fun j lv hl=>h3 _ _ _ j lv hl)
  exact⟨.c _ _ this,fun id hm=>vbS⟩
theorem zew(hs : Sat N w0 X0 σ E a w) : ∀{xs : List Operand} {l : List LV} {p : List Prop}, evs σ.slot xs = some (l, p) → All p →
    xs.length=l.length∧∀(i:Nat) lv,l[i]?=some lv→∃x,xs[i]?=some x∧RepV w w0.heap.size (Own σ E X0) E lv (a.eval x)∧∀id,Ment lv id→σ.used id=true
  |[],l,p,h,_=>by cases h;exact⟨rfl,fun i lv h=>vbQ⟩
  |x :: r, l, p, h, ha => by
    simp only[evs] at h
    split at h
    · rename_i y q ys q' h1 h2
      cases h
      obtain⟨ha1,ha2⟩:=All.append.1 ha
      obtain⟨h3,h4⟩:=zew hs h2 ha2
      refine⟨by simp[h3],fun i lv hl=>?_⟩
      cases i with
      |zero=>simp at hl;subst hl;exact⟨x,vbZ,zae hs h1 ha1⟩
      |succ i=>exact h4 i lv vbG
    · cases h
end ev

section load
variable {P:Program} {T:TypeId}
theorem zcw{b : Bool}(h : aggOf P T = some b)(w : World) : (isAgg T).run P w = .ok b w := by
 unfold aggOf at h;unfold isAgg;simp only[oD];split at h
 ·rename_i fs hu; cases h; rw [oM hu]; rfl
 ·rename_i n e hu; cases h; rw [oM hu]; rfl
 ·rename_i d h1 h2 hu;rw [oM hu];simp_all
 cases h
theorem zba{n:Nat}(h:szOf P T=some n)(w:World):(sizeOf T).run P w=.ok n w:=by unfold szOf at h;simp only[oq] at h;obtain⟨i,hi,rfl⟩:=h;simp[sizeOf,typeInfo,hi]

variable {w:World} {B:Nat} {X:Nat→Prop} {E:Env}
theorem zof{row : List LV}{off : Nat}{lv : LV}(h : loadL P T row off = some lv){ad : Addr}{cv : Nat → Value}(hc : ∀j, j < row.length → w.cell? (ad.add j) = some (cv j))(hr : ∀(j : Nat) x, row[j]? = some x → RepV w B X E x (cv j)) : (∃v, (loadVar T (ad.add off)).run P w = .ok v w ∧ RepV w B X E lv v) ∧ ∀id, Ment lv id → ∃x ∈ row, Ment x id := by
 unfold loadL at h;split at h
 ·rename_i n h1 h2;cases hb : Nat.ble (off + n) row.length with
  |false =>rw[hb] at h;cases h
  |true =>
   rw[hb] at h;simp only[oC,oo] at h;subst h;have hle:off+n≤row.length:=oS hb;refine⟨⟨.agg ((List.range n).map fun j=>cv (off+j)).toArray,?_,?_⟩,?_⟩
   ·simp only [loadVar, oD, zcw h1, ow, if_true, zba h2];rw [run_loadCells w (ad.add off) n (fun j => cv (off + j)) (fun j hj => by rw [zil]; exact hc _ vbX)];rfl
   ·refine .agg _ _ (by simp; omega) fun i x u hx hu => ?_;grind
   intro id hm;cases hm with
   |agg _ x _ hx hm' =>exact⟨x,List.mem_of_mem_drop (List.mem_of_mem_take hx),hm'⟩
 ·rename_i h1;have hlt : off < row.length := vbY
  refine⟨⟨cv off,?_,hr off lv h⟩,fun id hm=>⟨lv,oW h,hm⟩⟩;simp only[loadVar,oD,zcw h1,ow,oT,if_false,run_load,hc off hlt]
 cases h
end load

section vop
variable {P:Program} {N:Nat} {w0:World} {X0:Fr} {σ:FS} {E:Env} {a:Act} {w:World}

def VOk(P : Program)(w0 : World)(X0 : Fr)(σ : FS)(E : Env)(a : Act)(w : World)(o : Oper)(lv : LV) : Prop :=
  ∃v,(execOp a.eval o).run P w=.ok (.value v) w∧RepV w w0.heap.size (Own σ E X0) E lv v∧∀id,Ment lv id→σ.used id=true

theorem zm7{T f k : Nat}(h : zje P T f = some k)(ad : Addr)(w : World) : (Instr.fieldAt T (.pointer (some ad)) f).run P w = .ok (.pointer (some (ad.add k))) w := by
 unfold zje at h;split at h
 ·rename_i fs hu;split at h
  ·rename_i fl hf;split at h
   ·rename_i n hz;cases h;simp only [Instr.fieldAt, oD, oM hu, ow, hf, Instr.sureAddr, fieldPlace, zba hz];simp
   cases h
  cases h
 cases h

theorem zyu(hs : Sat N w0 X0 σ E a w){o : Oper}{c x y : Operand}(ho : o.op = .pick c x y){bx by' bz : Bool}{p q r : List Prop}(h1 : ev σ.slot c = some (.bool bx, p))(h2 : ev σ.slot x = some (.bool by', q))(h3 : ev σ.slot y = some (.bool bz, r))(ha : All (p ++ (q.map fun t => bx = true → t) ++ (r.map fun t => bx = false → t))) : VOk P w0 X0 σ E a w o (.bool (cond bx by' bz)) := by
 obtain⟨hab,hr⟩:=All.append.1 ha;obtain⟨hp,hq⟩:=All.append.1 hab;have e1:=(zae hs h1 hp).1.bool_inv;refine⟨.bool (cond bx by' bz),?_,.c _ _ (.bool _),fun id hm=>vbS⟩;simp only[execOp,ho,e1,asBool];cases bx with
 |true =>have e2:=(zae hs h2 (hq.map_imp rfl)).1.bool_inv;simp[e2]
 |false =>have e3:=(zae hs h3 (hr.map_imp rfl)).1.bool_inv;simp[e3]

theorem zmg(hs:Sat N w0 X0 σ E a w){o:Oper}{T:TypeId}{x:Operand}(ho:o.op=.load T x){lv:LV}{row:List LV}{off:Nat}(hl:loadL P T row off=some lv){ad:Addr}{cv:Nat→Value}(he:a.eval x=.pointer (some (ad.add off)))(hc:∀j,j<row.length→w.cell? (ad.add j)=some (cv j))(hr:∀(j:Nat) y,row[j]?=some y→RepV w w0.heap.size (Own σ E X0) E y (cv j))(hm:∀y,y∈row→∀id,Ment y id→σ.used id=true):VOk P w0 X0 σ E a w o lv:=by obtain⟨⟨v,h1,h2⟩,h3⟩:=zof hl hc hr;refine⟨v,?_,h2,fun id hmm=>by obtain⟨y,hy,hyy⟩:=h3 id hmm;exact hm y hy id hyy⟩;simp only[execOp,ho,oD,he,Instr.loadAt,Instr.sureAddr,oJ,ow,h1]

theorem znr(hs : Sat N w0 X0 σ E a w){o : Oper}{T : TypeId}{x : Operand}(ho : o.op = .load T x){lv : LV}{id off : Nat}{cells : List LV}(hx : RepV w w0.heap.size (Own σ E X0) E (.vp id off) (a.eval x))(hb : σ.blk id = some (.var cells))(hl : loadL P T cells off = some lv) : VOk P w0 X0 σ E a w o lv := by
 obtain⟨b,g1,g2⟩:=hx.vp_inv;obtain⟨b',vs,T',k1,k2,k3,k4,k5⟩:=hs.blks id _ hb;rw[g1] at k1;cases k1;refine zmg hs ho hl (ad:=⟨b,0,none⟩) (cv:=fun j=>vs.getD j undef) (by rw[za1,yA];exact g2) (fun j hj=>?_) (fun j y hy=>?_) fun y hy id' hm=>hs.wfb id cells y id' hb hy hm
 ·rw [za1, yA];have hj' : j < vs.size := vbX
  simp[Yj,k3,hj']
 have hj:j<vs.size:=vbY
 exact k5 j y _ hy (by simp[hj])

theorem zo7(hs : Sat N w0 X0 σ E a w){o : Oper}{T : TypeId}{x : Operand}(ho : o.op = .load T x){lv : LV}{row : List LV}{off : Nat}(hx : RepV w w0.heap.size (Own σ E X0) E (.ep row off) (a.eval x))(hl : loadL P T row off = some lv) : VOk P w0 X0 σ E a w o lv := by
 have h:=hx.ep_inv;generalize he:a.eval x=v at h;cases h with
 |ep _ _ ad cv hlt hX hc hr =>exact zmg hs ho hl he hc (fun j y hy=>.c _ _ (hr j y hy)) fun y hy id hm=>by obtain⟨j,hj,e⟩:=oX hy;exact absurd hm ((hr j y (by rw[oj hj,e])).noMent id)

theorem zo8(hs : Sat N w0 X0 σ E a w){o : Oper}{T : TypeId}{x : Operand}(ho : o.op = .load T x){lv : LV}{id sz i off n : Nat}{row : Nat → List LV}(hx : RepV w w0.heap.size (Own σ E X0) E (.ap id sz i off) (a.eval x))(hb : σ.blk id = some (.arr sz n row))(hl : loadL P T (row i) off = some lv) : VOk P w0 X0 σ E a w o lv := by
 obtain⟨b,g1,g2,g3⟩:=hx.ap_inv;obtain⟨hn,hk⟩:=hs.blks id _ hb;rcases hk with⟨k1,_⟩ | ⟨b',cap,vs,T',k1,k2,k3,k4,k5,k6,k7,k8⟩
 ·grind
 rw[g1] at k1;cases k1;rw[hn] at g2;obtain⟨hsz,_,hrow⟩:=k8 i g2;have hbd:∀j,j<sz→(E id).off+i * sz+j<vs.size:=fun j hj=>by have h1:i * sz+sz≤cap * sz:=va7;omega
 refine zmg hs ho hl (ad:=⟨b,(E id).off+i * sz,none⟩) (cv:=fun j=>vs.getD ((E id).off+i * sz+j) undef) (by rw[za1];exact g3) (fun j hj=>?_) (fun j y hy=>?_) fun y hy id' hm=>?_
 ·rw [za1];have := hbd j vbX;simp [Yj, k4, this]
 ·have hj : j < sz := vbY
  have:=hbd j hj;exact .c _ _ (hrow j y _ hy (by simp[this]))
 obtain⟨j,hj,e⟩:=oX hy;have:=hbd j vbX;exact absurd hm ((hrow j y (vs.getD ((E id).off+i * sz+j) undef) (by rw[oj hj,e]) (by simp[this])).noMent id')

theorem zez(hs : Sat N w0 X0 σ E a w){o : Oper}{T f : Nat}{x : Operand}(ho : o.op = .fieldAddr T x f){k : Nat}(hk : zje P T f = some k){lv : LV}(hx : RepV w w0.heap.size (Own σ E X0) E lv (a.eval x))(hm : ∀id, Ment lv id → σ.used id = true) : (∀id off, lv = .vp id off → VOk P w0 X0 σ E a w o (.vp id (off + k))) ∧ (∀row off, lv = .ep row off → VOk P w0 X0 σ E a w o (.ep row (off + k))) ∧ (∀id sz i off, lv = .ap id sz i off → VOk P w0 X0 σ E a w o (.ap id sz i (off + k))) := by
 have run:∀ad:Addr,a.eval x=.pointer (some ad)→(execOp a.eval o).run P w=.ok (.value (.pointer (some (ad.add k)))) w:=fun ad he=>by simp only[execOp,ho,oD,he,zm7 hk,ow,oJ]
 refine⟨?_,?_,?_⟩
 ·rintro id off rfl;obtain ⟨b, g1, g2⟩ := hx.vp_inv;exact ⟨_, run _ g2, by rw [za1]; exact .vp id (off + k) b g1, fun id' hm' => by cases hm'; exact hm id (.vp id off)⟩
 ·rintro row off rfl;have h := hx.ep_inv;generalize he : a.eval x = v at h;cases h with
  |ep _ _ ad cv hlt hX hc hr =>exact⟨_,run _ he,.c _ _ (by rw[zil];exact .ep row (off+k) ad cv hlt hX hc hr),fun id hm'=>by cases hm'⟩
 rintro id sz i off rfl;obtain⟨b,g1,g2,g3⟩:=hx.ap_inv;exact⟨_,run _ g3,by rw[za1,Nat.add_assoc ((E id).off+i * sz)];exact .ap id sz i (off+k) b g1 g2,fun id' hm'=>by cases hm';exact hm id (.ap id sz i off)⟩

theorem zv4{T e:TypeId}(h:P.underlying T=some (.slice e)):P.underlying T=some (.slice (P.elem T)):=by unfold Program.elem;rw[h]
theorem z12{T e:TypeId}(h:P.underlying T=some (.slice e)):P.elem T=e:=by unfold Program.elem;rw[h]
theorem zk0{T e s:Nat}(hu:P.underlying T=some (.slice e))(hz:szOf P e=some s){ad:Addr}{len cap:Nat}{k:IntKind}{j:Int}(h0:0≤j)(h1:j<(len:Int))(w:World):(Instr.indexAt T (.slice (some ad) len cap) (.int k j)).run P w=.ok (.pointer (some (ad.add (j.toNat * s)))) w:=by rw[run_indexAt_slice w T ad len cap k j (zv4 hu),if_pos ⟨h0,h1⟩,z12 hu,zba hz];rfl

theorem zns(hs : Sat N w0 X0 σ E a w){o : Oper}{T : Nat}{x i : Operand}(ho : o.op = .indexAddr T x i){e s : Nat}(hu : P.underlying T = some (.slice e))(hz : szOf P e = some s){fr : Bool}{n : Nat}{row : Nat → List LV}(hx : RepV w w0.heap.size (Own σ E X0) E (.ro fr s n row) (a.eval x)){k : IntKind}{j : Int}(hi : RepV w w0.heap.size (Own σ E X0) E (.int k j) (a.eval i))(h0 : 0 ≤ j)(h1 : j < (n : Int)) : VOk P w0 X0 σ E a w o (.ep (row j.toNat) 0) := by
 have hi:=hi.int_inv;have h:=hx.ro_inv;generalize he:a.eval x=v at h;cases h with
 |ro _ _ _ _ A ad cap cv hcap hA hlt hX hb hsz ho1 hc hr =>have hn:0<n:=vbX;have hj:j.toNat<n:=vbX;rw[hA hn] at he;refine⟨.pointer (some (ad.add (j.toNat * s))),va0,.c _ _ ?_,fun id hm=>vbS⟩;have:=RepC.ep (w:=w) (B:=w0.heap.size) (X:=Own σ E X0) (row j.toNat) 0 (ad.add (j.toNat * s)) (cv j.toNat) (by rw[zcm];exact hlt hn) (by rw[zcm];exact hX hn) (fun m hm=>by rw[zil];exact hc j.toNat m hj (by rw[hsz _ hj] at hm;exact hm)) (fun m lv hl=>hr j.toNat m lv hj hl);assumption

theorem zmi(hs : Sat N w0 X0 σ E a w){o : Oper}{T : Nat}{x i : Operand}(ho : o.op = .indexAddr T x i){e n : Nat}(hu : P.underlying T = some (.array n e))(hz : szOf P e = some 1){row : List LV}(hn : row.length = n)(hx : RepV w w0.heap.size (Own σ E X0) E (.ep row 0) (a.eval x)){k : IntKind}{j : Int}(hi : RepV w w0.heap.size (Own σ E X0) E (.int k j) (a.eval i))(h0 : 0 ≤ j)(h1 : j < (n : Int)) : VOk P w0 X0 σ E a w o (.ep [row.getD j.toNat .nilS] 0) := by
 have hi:=hi.int_inv;generalize he:a.eval x=v at hx;cases hx with
 |c _ _ h =>
  cases h with
  |ep _ _ ad cv hlt hX hc hr =>
   have hal:P.arrayLen T=n:=(by unfold Program.arrayLen;rw[hu]);have hel:P.elem T=e:=(by unfold Program.elem;rw[hu]);have ha0:ad.add 0=ad:=(by unfold Addr.add;simp);refine⟨.pointer (some (ad.add (j.toNat * 1))),?_,.c _ _ ?_,fun id hm=>vbS⟩
   ·simp only [execOp, ho, oD, he, hi];rw [ha0, run_indexAt_array w T ad k j (by rw [hal, hel]; exact hu), if_pos ⟨h0, by rw [hal]; exact h1⟩, hel, zba hz];simp_all
   have := RepC.ep (w := w) (B := w0.heap.size) (X := Own σ E X0) [row.getD j.toNat .nilS] 0 (ad.add j.toNat) (fun m => cv (j.toNat + m)) (by rw [zcm]; exact hlt) (by rw [zcm]; exact hX)
     (fun m hm => by rw [zil]; exact hc _ (by simp at hm; omega)) (fun m lv hl => by
       cases m with
       |zero =>
         grind
       |succ m=>simp at hl)
   rw[wc];exact this

theorem zky(hs:Sat N w0 X0 σ E a w){o:Oper}{T:Nat}{x i:Operand}(ho:o.op=.indexAddr T x i){e n s:Nat}(hu:P.underlying T=some (.array n e))(hz:szOf P e=some s){id m:Nat}{row:Nat→List LV}(hx:RepV w w0.heap.size (Own σ E X0) E (.ap id s 0 0) (a.eval x))(hb:σ.blk id=some (.arr s m row)){k:IntKind}{j:Int}(hi:RepV w w0.heap.size (Own σ E X0) E (.int k j) (a.eval i))(h0:0≤j)(h1:j<(n:Int))(h2:j<(m:Int)):VOk P w0 X0 σ E a w o (.ap id s j.toNat 0):=by have hi:=hi.int_inv;obtain⟨b,hbb,hn,e1⟩:=hx.ap_inv;have hal:P.arrayLen T=n:=(by unfold Program.arrayLen;rw[hu]);have hel:P.elem T=e:=(by unfold Program.elem;rw[hu]);have hm:(E id).n=m:=(hs.blks id _ hb).1;refine⟨.pointer (some ⟨b,(E id).off+j.toNat * s+0,none⟩),?_,.ap id s _ _ b hbb vbX,fun id' hm'=>by cases hm';exact hs.live id vbM⟩;simp only[execOp,ho,oD,e1,hi];rw[run_indexAt_array w T _ k j (by rw[hal,hel];exact hu),if_pos ⟨h0,by rw[hal];exact h1⟩,hel,zba hz];simp only[ow,oJ,za1,Nat.zero_mul,Nat.add_zero]

theorem zmh(hs : Sat N w0 X0 σ E a w){o : Oper}{T : Nat}{x i : Operand}(ho : o.op = .indexAddr T x i){e s : Nat}(hu : P.underlying T = some (.slice e))(hz : szOf P e = some s){id n : Nat}{row : Nat → List LV}(hx : RepV w w0.heap.size (Own σ E X0) E (.own id) (a.eval x))(hb : σ.blk id = some (.arr s n row)){k : IntKind}{j : Int}(hi : RepV w w0.heap.size (Own σ E X0) E (.int k j) (a.eval i))(h0 : 0 ≤ j)(h1 : j < (n : Int)) : VOk P w0 X0 σ E a w o (.ap id s j.toNat 0) := by
 have hi:=hi.int_inv;have he:=hx.own_inv;obtain⟨hn,hk⟩:=hs.blks id _ hb;rcases hk with⟨_,_,k3⟩ | ⟨b',cap,vs,T',k1,k2,_⟩
 ·omega
 rw[k2] at he;refine⟨.pointer (some ((⟨b',(E id).off,none⟩:Addr).add (j.toNat * s))),va0,?_,fun id' hm=>by cases hm;exact hs.live id vbM⟩;rw[za1];exact .ap id s j.toNat 0 b' k1 (by rw[hn];omega)
theorem zkx(hs : Sat N w0 X0 σ E a w){o : Oper}{T : Nat}{x i : Operand}(ho : o.op = .indexAddr T x i){e : Nat}(hu : P.underlying T = some (.slice e)){wd : Nat}(hz : szOf P e = some wd){id n sz : Nat}{cl : Bool}{rows : Nat → NR}(hx : RepV w w0.heap.size (Own σ E X0) E (.own id) (a.eval x))(hb : σ.blk id = some (.nest wd cl sz n rows)){k : IntKind}{j : Int}(hi : RepV w w0.heap.size (Own σ E X0) E (.int k j) (a.eval i))(h0 : 0 ≤ j)(h1 : j < (n : Int)) : VOk P w0 X0 σ E a w o (.ap id wd j.toNat 0) := by
 have hi:=hi.int_inv;have he:=hx.own_inv;obtain⟨ek,_,hn,hk⟩:=hs.blks id _ hb;rcases hk with⟨_,_,k3⟩ | ⟨b',cap,vs,T',k1,k2,_⟩
 ·omega
 rw[k2] at he;refine⟨.pointer (some ((⟨b',(E id).off,none⟩:Addr).add (j.toNat * wd))),va0,?_,fun id' hm=>by cases hm;exact hs.live id vbM⟩;rw[za1];exact .ap id wd j.toNat 0 b' k1 (by rw[hn];omega)

theorem ztl{k k':IntKind}(h:decide (k=k')=true):k=k':=ol h

theorem zod(l:List UInt8):(⟨l.toArray⟩:ByteArray).toList=l:=by rw[ByteArray.toList_eq]

theorem okI{k:IntKind}{n:Int}{B:Nat}{X:Nat→Prop}{r:Result Value}(h:r=.ok (.int k n) w):∃v,r=.ok v w∧RepC w B X (.int k n) v:=⟨_,h,.int _ _⟩
theorem okB{b:Bool}{B:Nat}{X:Nat→Prop}{r:Result Value}(h:r=.ok (.bool b) w):∃v,r=.ok v w∧RepC w B X (.bool b) v:=⟨_,h,.bool _⟩

theorem zzz{op : BinOp}{wr : Bool}{x y lv : LV}{p : List Prop}(h : binL op wr x y = some (lv, p))(ha : All p){T : TypeId}{vx vy : Value}{B : Nat}{X : Nat → Prop}(hx : RepV w B X E x vx)(hy : RepV w B X E y vy) : (∃v, (binOp op T vx vy).run P w = .ok v w ∧ RepC w B X lv v) := by
 unfold binL at h;split at h
 ·rename_i k a' k' b';have ex := hx.int_inv;have ey := hy.int_inv;subst ex; subst ey;cases hk : decide (k = k') with
  |false =>
   rw[hk] at h;simp only[oB] at h;cases op<;>simp only[reduceCtorEq] at h
   case shl => cases wr <;> simp only [oC, oB, oo, o6] at h <;> obtain ⟨rfl, rfl⟩ := h
               · exact okI vaX
               · exact okI (by rw [binOp_shl,shift_shl _ _ _ _ ha.1.1 ha.1.2];rfl)
   case shr=>simp only[oo,o6] at h;obtain⟨rfl,rfl⟩:=h;exact okI (by rw[binOp_shr,shift_shr _ _ _ _ ha.1.1 ha.1.2];rfl)
  |true =>
   have hkk:=ztl hk;subst hkk;rw[hk] at h;simp only[oC] at h;cases op<;>simp only[reduceCtorEq] at h
   case add => cases wr <;> simp only [oC, oB, oo, o6] at h <;> obtain ⟨rfl, rfl⟩ := h
               · exact okI (by simp [binOp_add,Op.intArith,zbn ha.1])
               · exact okI (by simp [binOp_add,Op.intArith])
   case sub => cases wr <;> simp only [oC, oB, oo, o6] at h <;> obtain ⟨rfl, rfl⟩ := h
               · exact okI (by simp [binOp_sub,Op.intArith,zbn ha.1])
               · exact okI (by simp [binOp_sub,Op.intArith])
   case mul => cases wr <;> simp only [oC, oB, oo, o6] at h <;> obtain ⟨rfl, rfl⟩ := h
               · exact okI (by simp [binOp_mul,Op.intArith,zbn ha.1])
               · exact okI (by simp [binOp_mul,Op.intArith])
   case quo => cases wr <;> simp only [oC, oB, oo, o6] at h <;> obtain ⟨rfl, rfl⟩ := h
               · exact okI (by simp [binOp_quo,Op.intDiv,zbn ha.2.1,ha.1])
               · exact okI (by simp [binOp_quo,Op.intDiv,ha.1])
   case rem=>simp only[oo,o6] at h;obtain⟨rfl,rfl⟩:=h;exact okI (by simp[binOp_rem,Op.intDiv,ha.1])
   case and=>simp only[oo,o6] at h;obtain⟨rfl,rfl⟩:=h;exact okI (by simp[binOp_and,intBits_and])
   case or=>simp only[oo,o6] at h;obtain⟨rfl,rfl⟩:=h;exact okI (by simp[binOp_or,intBits_or])
   case xor=>simp only[oo,o6] at h;obtain⟨rfl,rfl⟩:=h;exact okI (by simp[binOp_xor,intBits_xor])
   case shl => cases wr <;> simp only [oC, oB, oo, o6] at h <;> obtain ⟨rfl, rfl⟩ := h
               · exact okI vaX
               · exact okI (by rw [binOp_shl,shift_shl _ _ _ _ ha.1.1 ha.1.2];rfl)
   case shr=>simp only[oo,o6] at h;obtain⟨rfl,rfl⟩:=h;exact okI (by rw[binOp_shr,shift_shr _ _ _ _ ha.1.1 ha.1.2];rfl)
   all_goals (simp only[oo,o6] at h;obtain⟨rfl,rfl⟩:=h;exact okB (by simp[binOp,Op.intCmp,bne,BEq.beq]))
 ·rename_i a' b';have ex := hx.str_inv;have ey := hy.str_inv;subst ex; subst ey;cases op <;> simp only [reduceCtorEq] at h
  case add =>
    obtain⟨rfl,rfl⟩:=h
    refine⟨.string (⟨a'.toArray⟩++⟨b'.toArray⟩),?_,?_⟩
    · have hh : ¬ (((⟨a'.toArray⟩ : ByteArray).size + (⟨b'.toArray⟩ : ByteArray).size : Nat) : Int) > IntKind.i64.max := by
        simp[IntKind.max,IntKind.signed,IntKind.bits,ByteArray.size]
        have:=ha.1
        omega
      simp only[binOp,Op.stringOp]
      simp_all
    · have : (⟨a'.toArray⟩ ++ ⟨b'.toArray⟩ : ByteArray) = ⟨(a' ++ b').toArray⟩ := by
        apply ByteArray.ext
        simp
      exact .str _
  all_goals (simp only[oo,o6] at h;obtain⟨rfl,rfl⟩:=h;exact okB (by simp only[binOp,Op.stringOp,zod];rfl))
 cases h

theorem zuh{T : Nat}(hu : P.underlying T = some .bool){x y : Bool} : (binOp .eql T (.bool x) (.bool y)).run P w = .ok (.bool (x == y)) w ∧ (binOp .neq T (.bool x) (.bool y)).run P w = .ok (.bool (!(x == y))) w := by
 have h:∀d:Nat,(Op.equalIn (d+1) T (.bool x) (.bool y)).run P w=.ok (x==y) w:=fun d=>by simp[Op.equalIn,oM hu]
 constructor
 ·simp only [binOp];simp [Op.equal, Op.maxDepth, h 9999]
 simp only[binOp];simp[Op.equal,Op.maxDepth,h 9999]
theorem znf{α : Type}{c : Bool}{x y : α}(h : (bif c then some x else none) = some y) : c = true ∧ x = y := by
 cases c with
 |true =>exact⟨rfl,vbK⟩
 |false =>cases h
theorem zhz{α : Type}{c : Bool}{x : Option α}{y : α}(h : (bif c then x else none) = some y) : c = true ∧ x = some y := by
 cases c with
 |true =>exact⟨rfl,vbK⟩
 |false =>cases h
theorem zhu{d : Nat}{l m : List LV}{xs ys : Array Value}{B : Nat}{X : Nat → Prop}(hl : xs.size = l.length)(hm : ys.size = m.length)
    (h1:∀(i:Nat) lv v,l[i]?=some lv→xs[i]?=some v→RepV w B X E lv v) (h2:∀(i:Nat) lv v,m[i]?=some lv→ys[i]?=some v→RepV w B X E lv v) :
    ∀{fs:List Field} {c:Bool},eqFs P l m fs=some c→(Op.eqFields (d+1) xs ys fs).run P w=.ok c w
  |[],c,h=>by cases h;rfl
  |f :: fs, c, h => by
    have part_run : ∀{T : TypeId} {cs : Array Value} {k : Nat} {v : Value}, aggOf P T = some false → cs[k]? = some v → (part T cs k).run P w = .ok v w := fun {T cs k v} ha hv => by
      have hg : (isAgg T).run P w = .ok false w := by
        unfold aggOf at ha
        split at ha
        · cases ha
        · cases ha
        · rename_i u hu1 hu2 hu
          simp only[isAgg,oD,oM hu,ow]
          simp_all
        · cases ha
      simp only[part,oD,hg,ow,oT,if_false,hv,oJ]
    have get : ∀{l : List LV} {xs : Array Value} {k : Nat} {lv : LV}, xs.size = l.length → l[k]? = some lv → ∃v, xs[k]? = some v := fun {l xs k lv} hs hk => by
      have:=(oE.1 hk).1
      simp_all
    unfold eqFs at h
    split at h
    · rename_i k a k' b c' ha hu hx hy hc
      obtain⟨hk,e⟩:=znf h
      obtain⟨hk1,hk2⟩:=YW.1 hk
      have ek:=ol hk1
      subst ek;subst e
      have hn : f.name ≠ "_" := by grind
      obtain⟨v1,g1⟩:=get hl hx
      obtain⟨v2,g2⟩:=get hm hy
      have e1:=(h1 _ _ _ hx g1).int_inv
      have e2:=(h2 _ _ _ hy g2).int_inv
      subst e1;subst e2
      have ih:=zhu (d:=d) hl hm h1 h2 hc
      have hq : (Op.equalIn (d + 1) f.type (.int k a) (.int k b)).run P w = .ok (decide (a = b)) w := by
        rw[run_equalIn_int w d f.type k _ a b hu];congr 1
      simp only[Op.eqFields,hn,ne_eq,not_false_eq_true,if_true,oD,part_run ha g1,part_run ha g2,ow,hq,Sem.run_ite]
      cases hd:decide (a=b)
      · simp
      · grind
    · rename_i a b c' ha hu hx hy hc
      obtain⟨hk,e⟩:=znf h
      subst e
      have hn : f.name ≠ "_" := by grind
      obtain⟨v1,g1⟩:=get hl hx
      obtain⟨v2,g2⟩:=get hm hy
      have e1:=(h1 _ _ _ hx g1).bool_inv
      have e2:=(h2 _ _ _ hy g2).bool_inv
      subst e1;subst e2
      have ih:=zhu (d:=d) hl hm h1 h2 hc
      simp only[Op.eqFields,hn,ne_eq,not_false_eq_true,if_true,oD,part_run ha g1,part_run ha g2,ow,run_equalIn_bool' w d f.type a b hu,Sem.run_ite]
      cases hd:(a==b)
      · simp
      · grind
    · rename_i a b c' ha hu hx hy hc
      obtain⟨hk,e⟩:=znf h
      subst e
      have hn : f.name ≠ "_" := by grind
      obtain⟨v1,g1⟩:=get hl hx
      obtain⟨v2,g2⟩:=get hm hy
      have e1:=(h1 _ _ _ hx g1).str_inv
      have e2:=(h2 _ _ _ hy g2).str_inv
      subst e1;subst e2
      have ih:=zhu (d:=d) hl hm h1 h2 hc
      have hq : (Op.equalIn (d + 1) f.type (.string ⟨a.toArray⟩) (.string ⟨b.toArray⟩)).run P w = .ok (a == b) w := by
        rw[run_equalIn_string w d f.type _ _ hu];simp only[zod]
      simp only[Op.eqFields,hn,ne_eq,not_false_eq_true,if_true,oD,part_run ha g1,part_run ha g2,ow,hq,Sem.run_ite]
      cases hd:(a==b)
      · simp
      · grind
    · cases h
theorem zz2{op : BinOp}{T : Nat}{x y lv : LV}(h : binB P op T x y = some lv){vx vy : Value}{B : Nat}{X : Nat → Prop}(hx : RepV w B X E x vx)(hy : RepV w B X E y vy) : (∃v, (binOp op T vx vy).run P w = .ok v w ∧ RepC w B X lv v) := by
 unfold binB at h;split at h
 ·rename_i a' b' hu;have ex := hx.bool_inv;have ey := hy.bool_inv;subst ex; subst ey;cases h;exact okB (zuh hu).1
 ·rename_i a' b' hu;have ex := hx.bool_inv;have ey := hy.bool_inv;subst ex; subst ey;cases h;exact okB (zuh hu).2
 ·rename_i l m fs hu;obtain ⟨hk, e⟩ := zhz h;simp only [oq] at e;obtain ⟨c, hc, e⟩ := e;subst e;obtain ⟨hk1, hk2⟩ := YW.1 hk;obtain ⟨xs, rfl, hl, h1⟩ := hx.agg_inv;obtain ⟨ys, rfl, hm, h2⟩ := hy.agg_inv;have hf : P.underlying T = some (.struct (P.fieldsOf T)) := by unfold Program.fieldsOf; rw [hu]
  have hf2:P.fieldsOf T=fs:=vbY
  refine okB ?_;rw[run_eql_struct,run_equalIn_struct w 9999 T xs ys hf (by simpa using hk1),hf2,zhu (d:=9998) hl hm h1 h2 hc];rfl
 ·rename_i l m fs hu;obtain ⟨hk, e⟩ := zhz h;simp only [oq] at e;obtain ⟨c, hc, e⟩ := e;subst e;obtain ⟨hk1, hk2⟩ := YW.1 hk;obtain ⟨xs, rfl, hl, h1⟩ := hx.agg_inv;obtain ⟨ys, rfl, hm, h2⟩ := hy.agg_inv;have hf : P.underlying T = some (.struct (P.fieldsOf T)) := by unfold Program.fieldsOf; rw [hu]
  have hf2:P.fieldsOf T=fs:=vbY
  refine okB ?_;rw[run_neq_struct,run_equalIn_struct w 9999 T xs ys hf (by simpa using hk1),hf2,zhu (d:=9998) hl hm h1 h2 hc];rfl
 cases h

theorem zvm{y : Operand}(h : zvn y = true) : y = .const .nilIface := by
 unfold zvn at h;split at h
 ·rfl
 cases h
theorem znz{T : Nat}{ms : Array (String × TypeId)}(hu : P.underlying T = some (.interface ms)) : (binOp .eql T .nilIface .nilIface).run P w = .ok (.bool true) w ∧ (binOp .neq T .nilIface .nilIface).run P w = .ok (.bool false) w := by
 have h:∀d:Nat,(Op.equalIn (d+1) T .nilIface .nilIface).run P w=.ok true w:=fun d=>by simp[Op.equalIn,oM hu]
 constructor
 ·simp only [binOp];simp [Op.equal, Op.maxDepth, h 9999]
 simp only[binOp];simp[Op.equal,Op.maxDepth,h 9999]
theorem zjr{T t : Nat}{u : Value}{ms : Array (String × TypeId)}(hu : P.underlying T = some (.interface ms)) : (binOp .eql T (.iface t u) .nilIface).run P w = .ok (.bool false) w ∧ (binOp .neq T (.iface t u) .nilIface).run P w = .ok (.bool true) w := by
 have h:∀d:Nat,(Op.equalIn (d+1) T (.iface t u) .nilIface).run P w=.ok false w:=fun d=>by simp[Op.equalIn,oM hu]
 constructor
 ·simp only [binOp];simp [Op.equal, Op.maxDepth, h 9999]
 simp only[binOp];simp[Op.equal,Op.maxDepth,h 9999]
theorem zzw{op : BinOp}{T : Nat}{x lv : LV}{y : Bool}(h : binN P op T x y = some lv){vx : Value}{B : Nat}{X : Nat → Prop}(hx : RepV w B X E x vx) : (∃v, (binOp op T vx .nilIface).run P w = .ok v w ∧ RepC w B X lv v) ∧ y = true ∧ ∀(ox : Operand), (eqGuard op T ox (.const .nilIface) vx .nilIface).run P w = .ok () w := by
 unfold binN at h;split at h
 ·rename_i b ms hu;cases h;cases hx.er_inv with
  |er _ v h0 h1 =>
   cases b with
   |false =>obtain rfl:=h0 rfl;refine⟨okB ?_,rfl,fun ox=>by simp[eqGuard]⟩;exact(znz hu).1
   |true =>obtain⟨t,u,rfl⟩:=h1 rfl;refine⟨okB ?_,rfl,fun ox=>by simp[eqGuard]⟩;exact(zjr hu).1
 ·rename_i b ms hu;cases h;cases hx.er_inv with
  |er _ v h0 h1 =>
   cases b with
   |false =>obtain rfl:=h0 rfl;refine⟨okB ?_,rfl,fun ox=>by simp[eqGuard]⟩;exact(znz hu).2
   |true =>obtain⟨t,u,rfl⟩:=h1 rfl;refine⟨okB ?_,rfl,fun ox=>by simp[eqGuard]⟩;exact(zjr hu).2
 cases h
theorem zpv{op:BinOp}{T:Nat}{x y:Operand}{k k':IntKind}{a b:Int}:(eqGuard op T x y (.int k a) (.int k' b)).run P w=.ok () w:=vbg
theorem zpu{op:BinOp}{T:Nat}{x y:Operand}{a b:ByteArray}:(eqGuard op T x y (.string a) (.string b)).run P w=.ok () w:=vbg
theorem zix{op:BinOp}{T:Nat}{x y:Operand}{a b:Bool}:(eqGuard op T x y (.bool a) (.bool b)).run P w=.ok () w:=vbg
theorem ztu{op : BinOp}{wr : Bool}{x y lv : LV}{p : List Prop}(h : binL op wr x y = some (lv, p)){T : TypeId}{ox oy : Operand}{vx vy : Value}{B : Nat}{X : Nat → Prop}(hx : RepV w B X E x vx)(hy : RepV w B X E y vy) : (eqGuard op T ox oy vx vy).run P w = .ok () w := by
 unfold binL at h;split at h
 ·have ex := hx.int_inv;have ey := hy.int_inv;subst ex; subst ey;exact zpv
 ·have ex := hx.str_inv;have ey := hy.str_inv;subst ex; subst ey;exact zpu
 cases h
theorem ztv{op : BinOp}{T : Nat}{x y lv : LV}(h : binB P op T x y = some lv){ox oy : Operand}{vx vy : Value}{B : Nat}{X : Nat → Prop}(hx : RepV w B X E x vx)(hy : RepV w B X E y vy) : (eqGuard op T ox oy vx vy).run P w = .ok () w := by
 unfold binB at h;split at h
 ·have ex := hx.bool_inv;have ey := hy.bool_inv;subst ex; subst ey;exact zix
 ·have ex := hx.bool_inv;have ey := hy.bool_inv;subst ex; subst ey;exact zix
 ·obtain ⟨hk, e⟩ := zhz h;obtain ⟨hk1, hk2⟩ := YW.1 hk;obtain ⟨xs, rfl, _⟩ := hx.agg_inv;obtain ⟨ys, rfl, _⟩ := hy.agg_inv;exact run_eqGuard_agg w _ _ _ _ _ _ (by simpa using hk2)
 ·obtain ⟨hk, e⟩ := zhz h;obtain ⟨hk1, hk2⟩ := YW.1 hk;obtain ⟨xs, rfl, _⟩ := hx.agg_inv;obtain ⟨ys, rfl, _⟩ := hy.agg_inv;exact run_eqGuard_agg w _ _ _ _ _ _ (by simpa using hk2)
 cases h

theorem zja{mx : Bool}{k : IntKind} : ∀{a : Int} {l : List LV} {lv : LV}, maxL mx k a l = some lv → ∀{vs : List Value} {B : Nat} {X : Nat → Prop},
    vs.length=l.length→(∀(i:Nat) x v,l[i]?=some x→vs[i]?=some v→RepV w B X E x v)→∃n,lv=.int k n∧(vs.foldlM (if mx then Builtin.max2 else Builtin.min2) (.int k a)).run P w=.ok (.int k n) w
  |a, [], lv, h, vs, B, X, hl, _ => by
    cases h
    simp_all
  |a, x :: r, lv, h, vs, B, X, hl, hr => by
    cases vs with
    |nil=>simp at hl
    |cons v vs =>
      unfold maxL at h
      split at h
      · grind
      · rename_i k' b r' h1
        cases h1
        have e:=(hr 0 (.int k' b) v vbZ vbZ).int_inv
        subst e
        cases mx with
        |true =>
          obtain⟨n,h2,h3⟩:=zja h (vs:=vs) (B:=B) (X:=X) vbG (fun i x v h4 h5=>hr (i+1) x v (by simpa using h4) (by simpa using h5))
          simp only[if_true,List.foldlM_cons,Builtin.max2] at h3 ⊢
          grind
        |false =>
          obtain⟨n,h2,h3⟩:=zja h (vs:=vs) (B:=B) (X:=X) vbG (fun i x v h4 h5=>hr (i+1) x v (by simpa using h4) (by simpa using h5))
          simp only[oT,if_false,List.foldlM_cons,Builtin.min2] at h3 ⊢
          grind
      · cases h

theorem zkq{B : Nat}{X : Nat → Prop} : ∀{l : List LV} {bs : List Bool}, zne l = some bs → l.length = bs.length ∧ ∀(i : Nat) x, l[i]? = some x → ∃b, bs[i]? = some b ∧ x = .bool b
  |[],bs,h=>by cases h;exact⟨rfl,fun i x h=>vbQ⟩
  |x :: r, bs, h => by
    unfold zne at h
    split at h
    · grind
    · rename_i b r' h1
      cases h1
      simp only[oq] at h
      obtain⟨bs',h2,rfl⟩:=h
      obtain⟨h3,h4⟩:=zkq (B:=B) (X:=X) h2
      grind
    · cases h

theorem zli : ∀{l : List LV} {ws : List (List UInt8)}, zqz l = some ws → ∀(i : Nat), i < l.length → l.getD i .nilS = .str (ws.getD i [])
  |[],ws,h=>by intro i hi;simp at hi
  |x :: r, ws, h => by
    unfold zqz at h
    split at h
    · grind
    · rename_i b r' h1
      cases h1
      simp only[oq] at h
      obtain⟨ws',h2,rfl⟩:=h
      intro i hi
      cases i with
      |zero=>rfl
      |succ i=>simpa using zli h2 i (by simpa using hi)
    · cases h

theorem zzh(hs : Sat N w0 X0 σ E a w){T n : Nat}{x : LV}(h : lenL P T σ.blk x = some n){v : Value}(hx : RepV w w0.heap.size (Own σ E X0) E x v)(ty : TypeId) : (Builtin.len_ #[T] ty #[v]).run P w = .ok (.int .i64 (n : Int)) w := by
 unfold lenL at h;split at h
 ·rename_i s hu;cases h;have e := hx.str_inv;subst e;have hz : (⟨s.toArray⟩ : ByteArray).size = s.length := by show s.toArray.size = s.length; simp
  simp[Builtin.len_,oM hu,goInt,hz]
 ·rename_i e _ _ _ _ hu;cases h;have hh := hx.ro_inv;cases hh with
  |ro _ _ _ _ A ad cap cv =>simp[Builtin.len_,oM hu,goInt]
 ·rename_i e hu;cases h;have e := hx.nilS_inv;subst e;simp [Builtin.len_, oM hu, goInt]
 ·rename_i e id hu;have e := hx.own_inv;subst e;split at h
  ·rename_i sz m row hb;cases h;obtain ⟨hn, hk⟩ := hs.blks id _ hb;rcases hk with ⟨_, k2, k3⟩ | ⟨b', cap, vs, T', k1, k2, _⟩
   ·rw [k2]; subst k3; simp [Builtin.len_, oM hu, goInt]
   rw[k2];simp[Builtin.len_,oM hu,goInt]
  ·rename_i cl sz m rows hb;cases h;obtain ⟨ek, _, hn, hk⟩ := hs.blks id _ hb;rcases hk with ⟨_, k2, k3⟩ | ⟨b', cap, vs, T', k1, k2, _⟩
   ·rw [k2]; subst k3; simp [Builtin.len_, oM hu, goInt]
   rw[k2];simp[Builtin.len_,oM hu,goInt]
  cases h
 cases h

theorem zl1(hs : Sat N w0 X0 σ E a w){args : Array Operand}{k : IntKind}{n : Int}{r : List LV}{p : List Prop}(h : evs σ.slot args.toList = some (.int k n :: r, p))(ha : All p) : ∃vs : List Value, (args.map a.eval).toList = .int k n :: vs ∧ vs.length = r.length ∧ ∀(i : Nat) x v, r[i]? = some x → vs[i]? = some v → RepV w w0.heap.size (Own σ E X0) E x v := by
 obtain⟨h1,h2⟩:=zew hs h ha;obtain⟨l⟩:=args;cases l with
 |nil =>simp at h1
 |cons o l =>have e:a.eval o=.int k n:=(by obtain⟨x,hx,hr,_⟩:=h2 0 (.int k n) vbZ;simp at hx;subst hx;exact hr.int_inv);refine⟨l.map a.eval,by simp[e],vbH,fun i x v hx hv=>?_⟩;obtain⟨y,hy,hr,_⟩:=h2 (i+1) x (by simpa using hx);grind

set_option maxHeartbeats 1000000 in
theorem zt0(hs : Sat N w0 X0 σ E a w){o : Oper}{h : Hint}{lv : LV}{p : List Prop}(hv : vop P o σ.slot σ.blk h = some (lv, p))(ha : All p) : VOk P w0 X0 σ E a w o lv := by
 have noI:∀(k:IntKind) (n:Int) (id:Nat),Ment (.int k n) id→σ.used id=true:=fun _ _ _ hm=>by cases hm
 have noB:∀(b:Bool) (id:Nat),Ment (.bool b) id→σ.used id=true:=fun _ _ hm=>by cases hm
 unfold vop at hv;split at hv
 ·rename_i x ho;obtain ⟨h1, h2⟩ := zae hs hv ha;exact ⟨_, by simp only [execOp, ho, oJ], h1, h2⟩
 ·rename_i x ho;obtain ⟨h1, h2⟩ := zae hs hv ha;exact ⟨_, by simp only [execOp, ho, oJ], h1, h2⟩
 ·rename_i c x y ho;split at hv
  ·rename_i bx p1 by' q bz r h1 h2 h3;cases hv;exact zyu hs ho h1 h2 h3 ha
  cases hv
 ·rename_i T x ho;split at hv
  ·rename_i id off q h1;split at hv
   ·rename_i cells hb;simp only [oq] at hv;obtain ⟨v, hl, e⟩ := hv;cases e;exact znr hs ho (zae hs h1 ha).1 hb hl
   cases hv
  ·rename_i row off q h1;simp only [oq] at hv;obtain ⟨v, hl, e⟩ := hv;cases e;exact zo7 hs ho (zae hs h1 ha).1 hl
  ·rename_i id sz i off q h1;split at hv
   ·rename_i sz' n row hb;cases hz : yv sz sz' with
    |false =>rw[hz] at hv;cases hv
    |true =>rw[hz] at hv;simp only[oC,oq] at hv;obtain⟨v,hl,e⟩:=hv;cases e;have:=om hz;subst this;exact zo8 hs ho (zae hs h1 ha).1 hb hl
   cases hv
  cases hv
 ·rename_i T x f ho;split at hv
  ·rename_i id off q k h1 h2;cases hv;obtain ⟨g1, g2⟩ := zae hs h1 ha;exact (zez hs ho h2 g1 g2).1 id off rfl
  ·rename_i row off q k h1 h2;cases hv;obtain ⟨g1, g2⟩ := zae hs h1 ha;exact (zez hs ho h2 g1 g2).2.1 row off rfl
  ·rename_i id sz i off q k h1 h2;cases hv;obtain ⟨g1, g2⟩ := zae hs h1 ha;exact (zez hs ho h2 g1 g2).2.2 id sz i off rfl
  cases hv
 ·rename_i T x i ho;split at hv
  ·rename_i e fr sz n row q k j r hu h1 h2;cases hz : szOf P e with
   |none =>rw[hz] at hv;cases hv
   |some s =>
    rw[hz] at hv;cases hzz:yv s sz with
    |false =>simp[hzz] at hv
    |true =>simp only[hzz,oC,oo,o6] at hv;obtain⟨rfl,rfl⟩:=hv;have:=om hzz;subst this;obtain⟨hab,hc⟩:=All.append.1 ha;obtain⟨ha1,ha2⟩:=All.append.1 hab;exact zns hs ho hu hz (zae hs h1 ha1).1 (zae hs h2 ha2).1 hc.1.1 hc.1.2
  ·rename_i e id q k j r hu h1 h2;split at hv
   ·rename_i sz n row hb;cases hz : szOf P e with
    |none =>rw[hz] at hv;cases hv
    |some s =>
     rw[hz] at hv;cases hzz:yv s sz with
     |false =>simp[hzz] at hv
     |true =>simp only[hzz,oC,oo,o6] at hv;obtain⟨rfl,rfl⟩:=hv;have:=om hzz;subst this;obtain⟨hab,hc⟩:=All.append.1 ha;obtain⟨ha1,ha2⟩:=All.append.1 hab;exact zmh hs ho hu hz (zae hs h1 ha1).1 hb (zae hs h2 ha2).1 hc.1.1 hc.1.2
   ·rename_i wd cl sz n rows hb;cases hz : szOf P e with
    |none =>rw[hz] at hv;cases hv
    |some s =>
     rw[hz] at hv;cases hzz:yv s wd with
     |false =>simp[hzz] at hv
     |true =>simp only[hzz,oC,oo,o6] at hv;obtain⟨rfl,rfl⟩:=hv;have:=om hzz;subst this;obtain⟨hab,hc⟩:=All.append.1 ha;obtain⟨ha1,ha2⟩:=All.append.1 hab;exact zkx hs ho hu hz (zae hs h1 ha1).1 hb (zae hs h2 ha2).1 hc.1.1 hc.1.2
   cases hv
  ·rename_i n e row off q k j r hu h1 h2;split at hv
   ·rename_i ws hws;cases hz : szOf P e with
    |none =>rw[hz] at hv;cases hv
    |some s =>
     rw[hz] at hv;cases hzz:(yv s 1&&yv row.length n&&yv off 0) with
     |false =>simp[hzz] at hv
     |true =>simp only[hzz,oC,oo,o6] at hv;obtain⟨rfl,rfl⟩:=hv;simp only[oc] at hzz;obtain rfl:=om hzz.1.1;have e1:=om hzz.1.2;obtain rfl:=om hzz.2;obtain⟨hab,hc⟩:=All.append.1 ha;obtain⟨ha1,ha2⟩:=All.append.1 hab;have hg:=zli hws j.toNat (show j.toNat<row.length by have:=hc.1;omega);rw[←hg];exact zmi hs ho hu hz e1 (zae hs h1 ha1).1 (zae hs h2 ha2).1 hc.1.1 hc.1.2
   cases hv
  ·rename_i n e id sz i0 off q k j r hu h1 h2;split at hv
   ·rename_i sz' m row hb;cases hz : szOf P e with
    |none =>rw[hz] at hv;cases hv
    |some s =>
     rw[hz] at hv;cases hzz:(yv s sz&&yv sz sz'&&yv i0 0&&yv off 0) with
     |false =>simp[hzz] at hv
     |true =>simp only[hzz,oC,oo,o6] at hv;obtain⟨rfl,rfl⟩:=hv;simp only[oc] at hzz;obtain rfl:=om hzz.1.1.1;obtain rfl:=om hzz.1.1.2;obtain rfl:=om hzz.1.2;obtain rfl:=om hzz.2;obtain⟨hab,hc⟩:=All.append.1 ha;obtain⟨ha1,ha2⟩:=All.append.1 hab;exact zky hs ho hu hz (zae hs h1 ha1).1 hb (zae hs h2 ha2).1 hc.1.1 hc.1.2 hc.2.1
   cases hv
  cases hv
 ·rename_i T x i ho;split at hv
  ·rename_i s q k j r hu h1 h2;cases hv;obtain ⟨hab, hc⟩ := All.append.1 ha;obtain ⟨ha1, ha2⟩ := All.append.1 hab;have e1 := (zae hs h1 ha1).1.str_inv;have e2 := (zae hs h2 ha2).1.int_inv;refine ⟨.int .u8 ((s.getD j.toNat 0).toNat : Int), ?_, .c _ _ (.int _ _), noI _ _⟩;have hj : j.toNat < s.length := (by have := hc.1; omega);have hg : (if 0 ≤ j then (⟨s.toArray⟩ : ByteArray)[j.toNat]? else none) = some s[j.toNat] := (by rw [if_pos hc.1.1];have hj' : j.toNat < (⟨s.toArray⟩ : ByteArray).size := (by show j.toNat < s.toArray.size; simpa using hj);rw [getElem?_pos (⟨s.toArray⟩ : ByteArray) j.toNat hj'];rfl);simp only [execOp, ho, oD, e1, e2, Instr.index, asIntOf, oJ, ow, oM hu, hg];simp [List.getD, hj]
  ·rename_i n e l q k j r hu h1 h2;split at hv
   ·rename_i bs hb hg hz;cases hn : yv n bs.length with
    |false =>rw[hn] at hv;cases hv
    |true =>rw[hn] at hv;simp only[oC,oo,o6] at hv;obtain⟨rfl,rfl⟩:=hv;have hn:=om hn;obtain⟨hab,hc⟩:=All.append.1 ha;obtain⟨ha1,ha2⟩:=All.append.1 hab;obtain⟨vs,e1,hsz,hvs⟩:=(zae hs h1 ha1).1.agg_inv;have e2:=(zae hs h2 ha2).1.int_inv;obtain⟨hl,hbs⟩:=zkq (B:=0) (X:=fun _=>False) hb;have hj:j.toNat<l.length:=(by have:=hc.1;omega);have hj2:j.toNat<vs.size:=vbX;have hj3:j.toNat<bs.length:=vbX;obtain⟨b,hb1,hb2⟩:=hbs j.toNat l[j.toNat] (oj hj);have hv:=hvs j.toNat l[j.toNat] vs[j.toNat] (oj hj) (oL hj2);rw[hb2] at hv;have hv:=hv.bool_inv;refine⟨.bool (bs.getD j.toNat false),?_,.c _ _ (.bool _),noB _⟩;have hd:bs.getD j.toNat false=b:=(by simp[List.getD,hb1]);rw[hd];simp only[execOp,ho,oD,e1,e2,Instr.index,asIntOf,oJ,ow,oM hu,if_pos hc.1,zba hz,part,zcw hg,wc,oT,if_false,oL hj2,hv]
   cases hv
  cases hv
 ·rename_i op T x y yT ho;split at hv
  ·rename_i x' q y' r h1 h2;split at hv
   ·rename_i v t hb;cases hv;obtain ⟨hab, hc⟩ := All.append.1 ha;obtain ⟨ha1, ha2⟩ := All.append.1 hab;have r1 := (zae hs h1 ha1).1;have r2 := (zae hs h2 ha2).1;obtain ⟨u, hu, hr⟩ := zzz (P := P) hb hc (T := T) r1 r2;exact ⟨u, by simp only [execOp, ho, oD, ztu hb r1 r2, ow, hu, oJ], .c _ _ hr, fun id hm => absurd hm (hr.noMent id)⟩
   split at hv
   ·rename_i v hb;cases hv;obtain ⟨ha1, ha2⟩ := All.append.1 ha;have r1 := (zae hs h1 ha1).1;have r2 := (zae hs h2 ha2).1;obtain ⟨u, hu, hr⟩ := zz2 (P := P) hb r1 r2;exact ⟨u, by simp only [execOp, ho, oD, ztv hb r1 r2, ow, hu, oJ], .c _ _ hr, fun id hm => absurd hm (hr.noMent id)⟩
   simp only[oq] at hv;obtain⟨v,hb,e⟩:=hv;cases e;obtain⟨ha1,ha2⟩:=All.append.1 ha;have r1:=(zae hs h1 ha1).1;obtain⟨⟨u,hu,hr⟩,hy,hg⟩:=zzw (P:=P) hb r1;have ey:=zvm hy;subst ey;have e2:a.eval (.const .nilIface)=.nilIface:=rfl;exact⟨u,by simp only[execOp,ho,oD,e2,hg,ow,hu,oJ],.c _ _ hr,fun id hm=>absurd hm (hr.noMent id)⟩
  cases hv
 ·rename_i T x ho;split at hv
  ·rename_i b q h1;cases hv;have e := (zae hs h1 ha).1.bool_inv;exact ⟨.bool (!b), by simp only [execOp, ho, oD, e, Op.unary, oJ, ow], .c _ _ (.bool _), noB _⟩
  cases hv
 ·rename_i T x ho;split at hv
  ·rename_i k n q h1;cases hv;obtain ⟨ha1, ha2⟩ := All.append.1 ha;have e := (zae hs h1 ha1).1.int_inv;refine ⟨.int k (-n), ?_, .c _ _ (.int _ _), noI _ _⟩;have hw : k.wrap (0 - n) = -n := (by rw [Int.zero_sub]; exact zbn ha2.1);simp only [execOp, ho, oD, e, Op.unary, Op.intArith, oJ, ow, hw]
  cases hv
 ·rename_i x i ho;split at hv
  ·rename_i l q h1;simp only [oq] at hv;obtain ⟨v, hl, e⟩ := hv;cases e;obtain ⟨g1, g2⟩ := zae hs h1 ha;obtain ⟨vs, e1, hsz, hvs⟩ := g1.tup_inv;have hi : i < vs.size := by
    rw[hsz];rcases oY i l.length with h' | h'
    ·exact h'
    rw[o5 h'] at hl;cases hl
   refine⟨vs[i],?_,hvs i lv vs[i] hl (oL hi),fun id hm=>g2 id (.tup _ lv id (oW hl) hm)⟩;simp only[execOp,ho,oD,e1,Instr.extract,oL hi,oJ,ow]
  cases hv
 ·rename_i S T x ho;split at hv
  ·rename_i d k k' n q hS hT h1;have hrun : ∀ q' : List Prop, All q' → q' = q → (execOp a.eval o).run P w = .ok (.value (.int k (k.wrap n))) w := fun q' hq e => (by subst e;have e := (zae hs h1 hq).1.int_inv;simp only [execOp, ho, oD, e, convert, oM hS, oM hT, ow];cases d <;> rfl);cases hw : zvl h with
   |true =>rw[hw] at hv;simp only[oC,oo,o6] at hv;obtain⟨rfl,rfl⟩:=hv;exact⟨_,hrun _ ha rfl,.c _ _ (.int _ _),noI _ _⟩
   |false =>rw[hw] at hv;simp only[oB,oo,o6] at hv;obtain⟨rfl,rfl⟩:=hv;obtain⟨ha1,ha2⟩:=All.append.1 ha;have:=hrun _ ha1 rfl;rw[zbn ha2.1] at this;exact⟨_,this,.c _ _ (.int _ _),noI _ _⟩
  cases hv
 ·rename_i x ho;split at hv
  ·rename_i id off q h1;cases hv;obtain ⟨g1, g2⟩ := zae hs h1 ha;obtain ⟨b, k1, k2⟩ := g1.vp_inv;exact ⟨_, by simp only [execOp, ho, k2, oJ], .vp id off b k1, g2⟩
  ·rename_i row off q h1;cases hv;obtain ⟨g1, g2⟩ := zae hs h1 ha;have hh := g1.ep_inv;generalize he : a.eval x = v at hh;cases hh with
   |ep _ _ ad cv hlt hX hc hr =>exact⟨_,by simp only[execOp,ho,he,oJ],.c _ _ (.ep row off ad cv hlt hX hc hr),g2⟩
  ·rename_i id sz i off q h1;cases hv;obtain ⟨g1, g2⟩ := zae hs h1 ha;obtain ⟨b, k1, k2, k3⟩ := g1.ap_inv;exact ⟨_, by simp only [execOp, ho, k3, oJ], .ap id sz i off b k1 k2, g2⟩
  cases hv
 ·rename_i args argTypes ho;split at hv
  ·rename_i x T hx hT;split at hv
   ·rename_i x' q h1;simp only [oq] at hv;obtain ⟨n, hl, e⟩ := hv;cases e;have r1 := (zae hs h1 ha).1;have e1 : args = #[x] := (by cases args; simp_all);have e2 : argTypes = #[T] := (by cases argTypes; simp_all);subst e1; subst e2;refine ⟨.int .i64 (n : Int), ?_, .c _ _ (.int _ _), noI _ _⟩;simp only [execOp, ho, oD, resolve, oJ, ow, invoke, builtin, List.map_toArray, List.map_cons, List.map_nil, zzh hs hl r1]
   cases hv
  cases hv
 ·rename_i args argTypes ho;split at hv
  ·rename_i k n r q h1;simp only [oq] at hv;obtain ⟨v, hl, e⟩ := hv;cases e;obtain ⟨vs, e1, e2, e3⟩ := zl1 hs h1 ha;obtain ⟨m, rfl, hm⟩ := zja (P := P) (w := w) hl e2 e3;refine ⟨.int k m, ?_, .c _ _ (.int _ _), noI _ _⟩;simp only [execOp, ho, oD, resolve, oJ, ow, invoke, builtin, Builtin.max_, e1];simp only [if_true] at hm;rw [hm]; rfl
  cases hv
 ·rename_i args argTypes ho;split at hv
  ·rename_i k n r q h1;simp only [oq] at hv;obtain ⟨v, hl, e⟩ := hv;cases e;obtain ⟨vs, e1, e2, e3⟩ := zl1 hs h1 ha;obtain ⟨m, rfl, hm⟩ := zja (P := P) (w := w) hl e2 e3;refine ⟨.int k m, ?_, .c _ _ (.int _ _), noI _ _⟩;simp only [execOp, ho, oD, resolve, oJ, ow, invoke, builtin, Builtin.min_, e1];simp only [oT, if_false] at hm;rw [hm]; rfl
  cases hv
 cases hv
end vop
end Go.Lite

set_option linter.unusedSimpArgs false
namespace Go.Lite
open Go Go.RowKit
open Go.Value renaming int→yX
open Go.IntKind renaming i64→yH
open Go.Result renaming andThen→Yh
open _root_.Option renaming isSome_iff_exists→YK
open _root_.List renaming getElem?_cons_zero→Yl

def intTy(P : Program)(T : TypeId) : Bool := match P.underlying T with
  |some (.int .i64)=>true
  |_=>false
def kdOk(P : Program)(K : TypeId)(kd : KD) : Bool := match kd, P.underlying K with
  |.str,some .string=>true
  |.int k,some (.int k')=>decide (k=k')
  | .pair, some (.struct fs) => match fs.toList with
    | [f, g] => intTy P f.type && (intTy P g.type && (Nat.beq f.offset 0 && (Nat.beq g.offset 1 && (f.name != "_" && (g.name != "_" && !P.stoodInHeld K)))))
    |_=>false
  |_,_=>false

section
variable {P:Program} {K:TypeId} {kd:KD} {w:World}

theorem zii{v:Value}{k:KV}(h:KD.str.key v=some k):∃s,v=.string s∧k=.s s.data.toList:=by cases v<;>simp[KD.key] at h;exact⟨_,rfl,h.symm⟩
theorem zij{i:IntKind}{v:Value}{k:KV}(h:(KD.int i).key v=some k):∃n,v=.int i n∧k=.i n:=by cases v<;>simp[KD.key] at h;grind
theorem zf4{v : Value}{k : KV}(h : KD.pair.key v = some k) : ∃a b, v = Value.agg #[yX yH a, yX yH b] ∧ k = .p a b := by
 cases v<;>simp only[KD.key] at h<;>try (cases h;done)
 split at h
 ·rename_i vs _ a b hvs;cases h;refine ⟨a, b, ?_, rfl⟩;have e : vs = #[yX yH a, yX yH b] := vbY
  rw[e]
 cases h

theorem zvh{v v' : Value}{k : KV}(h : kd.key v = some k)(h' : kd.key v' = some k) : v = v' := by
 cases kd with
 |str =>obtain⟨s,rfl,rfl⟩:=zii h;obtain⟨s',rfl,e⟩:=zii h';cases s;cases s';simp_all
 |int i =>obtain⟨n,rfl,rfl⟩:=zij h;obtain⟨n',rfl,e⟩:=zij h';grind
 |pair =>obtain⟨a,b,rfl,rfl⟩:=zf4 h;obtain⟨a',b',rfl,e⟩:=zf4 h';grind

theorem zl2{T : TypeId}(h : intTy P T = true) : P.underlying T = some (.int .i64) := by
 unfold intTy at h;split at h
 ·assumption
 cases h

theorem z0n(h:kdOk P K .str=true):P.underlying K=some .string:=by unfold kdOk at h;split at h<;>simp_all
theorem z0o{i:IntKind}(h:kdOk P K (.int i)=true):P.underlying K=some (.int i):=by unfold kdOk at h;split at h<;>simp_all
theorem zpo (h : kdOk P K .pair = true) : ∃ f g : Field, P.underlying K = some (.struct #[f, g]) ∧ P.underlying f.type = some (.int .i64) ∧ P.underlying g.type = some (.int .i64) ∧ f.offset = 0 ∧ g.offset = 1 ∧ f.name ≠ "_" ∧ g.name ≠ "_" ∧ P.stoodInHeld K = false := by
  unfold kdOk at h
  split at h
  · grind
  · grind
  · rename_i fs hu hk
    split at h
    · rename_i f g hfs
      simp only[oc,bne_iff_ne,od] at h
      obtain⟨h1,h2,h3,h4,h5,h6,h7⟩:=h
      have e:fs=#[f,g]:=vbY
      subst e
      exact⟨f,g,hk,zl2 h1,zl2 h2,om h3,om h4,h5,h6,h7⟩
    · cases h
  · cases h

theorem zvo{T:TypeId}(h:P.underlying T=some (.int .i64))(w:World):(isAgg T).run P w=.ok false w:=by simp[isAgg,oM h]
theorem zi8{T:TypeId}(h:P.underlying T=some (.int .i64)){cs:Array Value}{i:Nat}{v:Value}(hv:cs[i]?=some v)(w:World):(part T cs i).run P w=.ok v w:=by simp[part,zvo h,hv,Yh]

theorem zha(h : kdOk P K kd = true){v : Value}{k : KV}(hk : kd.key v = some k)(e : Bool)(n : Nat) : (Instr.checkKey e (n + 2) K v).run P w = .ok () w := by
 cases kd with
 |str =>obtain⟨s,rfl,_⟩:=zii hk;exact MapKept.run_checkKey (z0n h) (by simp[MapKept.IsKey]) e (n+1)
 |int i =>obtain⟨m,rfl,_⟩:=zij hk;exact MapKept.run_checkKey (z0o h) (by simp[MapKept.IsKey]) e (n+1)
 |pair =>obtain⟨a,b,rfl,_⟩:=zf4 hk;obtain⟨f,g,hu,h1,h2,h3,h4,h5,h6,h7⟩:=zpo h;rw[Instr.checkKey];simp only[oD,oM hu];have c1:(Instr.checkKey e (n+1) f.type (yX yH a)).run P w=.ok () w:=MapKept.run_checkKey h1 (by simp[MapKept.IsKey]) e n;have c2:(Instr.checkKey e (n+1) g.type (yX yH b)).run P w=.ok () w:=MapKept.run_checkKey h2 (by simp[MapKept.IsKey]) e n;have p1:=zi8 h1 (cs:=#[yX yH a,yX yH b]) (i:=f.offset) (v:=yX yH a) (by rw[h3];rfl) w;have p2:=zi8 h2 (cs:=#[yX yH a,yX yH b]) (i:=g.offset) (v:=yX yH b) (by rw[h4];rfl) w;simp_all

theorem zot{T:TypeId}(h:P.underlying T=some (.int .i64))(d:Nat)(a b:Int):(Op.equalIn (d+1) T (yX yH a) (yX yH b)).run P w=.ok (a==b) w:=by simp[Op.equalIn,oM h]

theorem zk1(h:kdOk P K .pair=true)(a b a' b':Int):(Op.equal K (Value.agg #[yX yH a,yX yH b]) (Value.agg #[yX yH a',yX yH b'])).run P w=.ok (decide (a=a'∧b=b')) w:=by obtain⟨f,g,hu,h1,h2,h3,h4,h5,h6,h7⟩:=zpo h;have p1:=fun x y=>zi8 h1 (cs:=#[yX yH x,yX yH y]) (i:=f.offset) (v:=yX yH x) (by rw[h3];rfl) w;have p2:=fun x y=>zi8 h2 (cs:=#[yX yH x,yX yH y]) (i:=g.offset) (v:=yX yH y) (by rw[h4];rfl) w;have hm:Op.maxDepth=9998+1+1:=rfl;rw[Op.equal,hm,Op.equalIn];simp only[oD,oM hu,ow,run_program,h7,oT,if_false];rw[←Array.forIn_toList];simp only[List.forIn_cons,oD,h5,h6,ne_eq,not_false_eq_true,if_true,ow,p1,zot h1];by_cases ha:a=a'<;>by_cases hb:b=b'<;>simp[ha,hb,p2,zot h2]

theorem zim (h : kdOk P K kd = true) {v : Value} {k : KV} (hk : kd.key v = some k) {es : List MapEntry} (hes : ∀ e ∈ es, (kd.key e.key).isSome = true) : ∃ r, (Instr.findKey K v es).run P w = .ok r w ∧ r.map (·.2) = findM kd es k ∧ ∀ i x, r = some (i, x) → ∃ e, es[i]? = some e ∧ kd.key e.key = some k ∧ ∀ j e', j < i → es[j]? = some e' → kd.key e'.key ≠ some k := by
 have now : ∀ d : TypeDesc, P.underlying K = some d → MapKept.IsKey d v → (∀ e ∈ es, MapKept.IsKey d e.key) → ∃ r, (Instr.findKey K v es).run P w = .ok r w ∧ r.map (·.2) = findM kd es k ∧ ∀ i x, r = some (i, x) → ∃ e, es[i]? = some e ∧ kd.key e.key = some k ∧ ∀ j e', j < i → es[j]? = some e' → kd.key e'.key ≠ some k := by
  intro d hd h1 h2;have key : ∀ (l : List MapEntry) (i : Nat), (∀ e ∈ l, MapKept.IsKey d e.key) → ∃ r, Instr.findNow d v l i = some r ∧ r.map (·.2) = findM kd l k ∧ ∀ j x, r = some (j, x) → i ≤ j ∧ ∃ e, l[j - i]? = some e ∧ kd.key e.key = some k ∧ ∀ m e', m < j - i → l[m]? = some e' → kd.key e'.key ≠ some k := by
   intro l;induction l with
   |nil =>intro i _;exact⟨none,rfl,rfl,fun j x hj=>by cases hj⟩
   |cons e l ih =>
    intro i hl;obtain⟨r,hr,hiff⟩:=MapKept.sameNow_of_keys h1 (hl e (.head _));cases r with
    |true =>have e1:kd.key e.key=some k:=vbY;refine⟨some (i,e.val),by simp[Instr.findNow,hr],by simp[findM,e1],fun j x hj=>?_⟩;grind
    |false =>have hne:kd.key e.key≠some k:=fun q=>(by have:=hiff.2 (zvh hk q);grind);obtain⟨r,g1,g2,g3⟩:=ih (i+1) fun x hx=>hl x (.tail _ hx);refine⟨r,by simp[Instr.findNow,hr,g1],by simp[findM,hne,g2],fun j x hj=>?_⟩;obtain⟨q1,e',q2,q3,q4⟩:=g3 j x hj;refine⟨vbX,e',by rw[show j - i=(j - (i+1))+1 by omega];simpa using q2,q3,fun m e'' hm he=>?_⟩;grind
  obtain⟨r,g1,g2,g3⟩:=key es 0 h2;refine⟨r,MapKept.run_findKey hd g1,g2,fun i x hi=>?_⟩;grind
 cases kd with
 |str =>
  refine now _ (z0n h) ?_ fun e he=>?_
  ·obtain ⟨s, rfl, _⟩ := zii hk; simp [MapKept.IsKey]
  obtain⟨k',hk'⟩:=YK.1 (hes e he);obtain⟨s,e1,_⟩:=zii hk';rw[e1];simp[MapKept.IsKey]
 |int i =>
  refine now _ (z0o h) ?_ fun e he=>?_
  ·obtain ⟨s, rfl, _⟩ := zij hk; simp [MapKept.IsKey]
  obtain⟨k',hk'⟩:=YK.1 (hes e he);obtain⟨s,e1,_⟩:=zij hk';rw[e1];simp[MapKept.IsKey]
 |pair =>
  obtain ⟨a, b, rfl, rfl⟩ := zf4 hk;obtain ⟨f, g, hu, _⟩ := zpo h;have key : ∀ (l : List MapEntry) (i : Nat), (∀ e ∈ l, (KD.pair.key e.key).isSome = true) → ∃ r, (Instr.findAsking K (Value.agg #[yX yH a, yX yH b]) l i).run P w = .ok r w ∧ r.map (·.2) = findM .pair l (.p a b) ∧ ∀ j x, r = some (j, x) → i ≤ j ∧ ∃ e, l[j - i]? = some e ∧ KD.pair.key e.key = some (.p a b) ∧ ∀ m e', m < j - i → l[m]? = some e' → KD.pair.key e'.key ≠ some (.p a b) := by
   intro l;induction l with
   |nil =>intro i _;exact⟨none,rfl,rfl,fun j x hj=>by cases hj⟩
   |cons e l ih =>
    intro i hl;obtain⟨k',hk'⟩:=YK.1 (hl e (.head _));obtain⟨a',b',e1,rfl⟩:=zf4 hk';rw[Instr.findAsking,oD,e1,zk1 h,ow];by_cases hc:a=a'∧b=b'
    ·obtain ⟨rfl, rfl⟩ := hc;refine ⟨some (i, e.val), vbZ, by simp [findM, hk'], fun j x hj => ?_⟩;cases hj;exact ⟨ou _, e, vbZ, hk', fun m e' hm => vbX⟩
    have hne:KD.pair.key e.key≠some (.p a b):=fun q=>(by rw[hk'] at q;simp only[oo,KV.p.injEq] at q;exact hc ⟨q.1.symm,q.2.symm⟩);obtain⟨r,g1,g2,g3⟩:=ih (i+1) fun x hx=>hl x (.tail _ hx);refine⟨r,by simp[hc,g1],by rw[findM,if_neg hne];exact g2,fun j x hj=>?_⟩;obtain⟨q1,e',q2,q3,q4⟩:=g3 j x hj;refine⟨vbX,e',by rw[show j - i=(j - (i+1))+1 by omega];simpa using q2,q3,fun m e'' hm he=>?_⟩;cases m with
    |zero =>simp at he;subst he;exact hne
    |succ m =>exact q4 m e'' vbX (by simpa using he)
  obtain⟨r, g1, g2, g3⟩ := key es 0 hes;have hnow : Instr.findNow (TypeDesc.struct #[f, g]) (Value.agg #[yX yH a, yX yH b]) es 0 = none ∨ es = [] := by
   cases es with
   |nil =>exact .inr rfl
   |cons e l =>left;simp[Instr.findNow,Instr.sameNow]
  rcases hnow with hn | rfl
  ·refine ⟨r, by simp [Instr.findKey, oM hu, Yh, hn, g1], g2, fun i x hi => ?_⟩;obtain ⟨_, e, q1, q2, q3⟩ := g3 i x hi;exact ⟨e, by simpa using q1, q2, fun j e' hj => q3 j e' vbX⟩
  exact⟨none,by simp[Instr.findKey,oM hu,Yh,Instr.findNow],rfl,fun i x hi=>by cases hi⟩
end

theorem zl3(kd : KD)(e : MapEntry)(k : KV) : ∀es : List MapEntry, findM kd (es ++ [e]) k = match findM kd es k with
    |some v=>some v
    |none=>if kd.key e.key=some k then some e.val else none
  |[]=>by simp[findM]
  |x :: es => by
    simp only[List.cons_append,findM]
    split
    · rfl
    · exact zl3 kd e k es
theorem zoq{kd : KD}{k : KV}{v : Value} : ∀{es es' : List MapEntry} {i : Nat}, es'.length = es.length → (∀j e, es[j]? = some e → ∃e', es'[j]? = some e' ∧ kd.key e'.key = kd.key e.key ∧ (j ≠ i → e'.val = e.val) ∧ (j = i → e'.val = v)) →
    (∃e,es[i]?=some e∧kd.key e.key=some k)→(∀j e,j<i→es[j]?=some e→kd.key e.key≠some k)→∀k',findM kd es' k'=if k'=k then some v else findM kd es k'
  |[],es',i,hl,hh,⟨e,he,_⟩,_,k'=>by simp at he
  |x :: es,[],i,hl,hh,he,hf,k'=>by simp at hl
  |x :: es, y :: es', 0, hl, hh, ⟨e, he, hek⟩, hf, k' => by
    simp only[Yl,oo] at he
    subst he
    obtain⟨e',h1,h2,_,h4⟩:=hh 0 x vbZ
    simp only[Yl,oo] at h1
    subst h1
    simp only[findM,h2,hek]
    by_cases hc:k'=k
    · grind
    · have hkk:¬ some k=some k':=fun q=>hc (by injection q with q;exact q.symm)
      simp only[hkk,hc,if_false]
      have : ∀(a b : List MapEntry), b.length = a.length → (∀(j : Nat) (e : MapEntry), a[j]? = some e → ∃e' : MapEntry, b[j]? = some e' ∧ kd.key e'.key = kd.key e.key ∧ e'.val = e.val) → findM kd b k' = findM kd a k' := by
        intro a
        induction a with
        | nil => intro b hb _; cases b with
          |nil=>rfl
          |cons _ _=>simp at hb
        |cons p a ih =>
          intro b hb hab
          cases b with
          |nil=>simp at hb
          |cons q b =>
            obtain⟨e',g1,g2,g3⟩:=hab 0 p vbZ
            simp only[Yl,oo] at g1
            subst g1
            simp only[findM,g2,g3]
            rw[ih b (by simpa using hb) fun j e hj=>by simpa using hab (j+1) e (by simpa using hj)]
      refine this es es' vbG fun j e hj=>?_
      obtain⟨e',g1,g2,g3,_⟩:=hh (j+1) e (by simpa using hj)
      grind
  |x :: es, y :: es', i + 1, hl, hh, ⟨e, he, hek⟩, hf, k' => by
    obtain⟨e',h1,h2,h3,_⟩:=hh 0 x vbZ
    simp only[Yl,oo] at h1
    subst h1
    have hx:=hf 0 x vbX vbZ
    have ih := zoq (kd := kd) (k := k) (v := v) (es := es) (es' := es') (i := i) vbG (fun j e hj => by
      obtain⟨e',g1,g2,g3,g4⟩:=hh (j+1) e (by simpa using hj)
      exact⟨e',by simpa using g1,g2,fun hji=>g3 vbX,fun hji=>g4 vbX⟩) ⟨e,by simpa using he,hek⟩ (fun j e hj hje=>hf (j+1) e vbX (by simpa using hje)) k'
    simp only[findM,h2,h3 vbX]
    by_cases hc:kd.key x.key=some k'
    · rw [if_pos hc,if_pos hc]
      simp_all
    · rw [if_neg hc,if_neg hc];exact ih

def mset{α:Type}(f:KV→Option α)(k:KV)(x:α):KV→Option α:=fun k'=>if k'=k then some x else f k'

section
variable {P:Program} {K V T:TypeId} {kd:KD} {w:World} {b ck:Nat} {es:Array MapEntry}

theorem zpd(ht : P.underlying T = some (.map K V))(h : kdOk P K kd = true)(hb : w.heap[b]? = some (.map es ck)){m : MV}(hm : MapOk kd m es){kv : Value}{k : KV}(hk : kd.key kv = some k){z : Value}(hz : (zeroValue V).run P w = .ok z w)(ok : Bool) : (Instr.lookup T (.map (some b)) kv ok).run P w = .ok (if ok then .tuple #[(m.val k).getD z, .bool (m.val k).isSome] else(m.val k).getD z) w := by
 obtain⟨r,h1,h2,_⟩:=zim (w:=w) h hk hm.1;rw[hm.2 k] at h2;simp only[Instr.lookup,oD,oM ht,ow,MapKept.run_getObj_map hb,oJ];rw[show(10000:Nat)=9998+2 from rfl,zha h hk];simp only[ow,h1];cases r with
 |none =>simp only[oD,hz,ow,oJ];grind
 |some q =>simp only[←h2];simp

theorem zzj{v v' : Value}{k : KV}(h : kd.key v = some k)(h' : kd.key v' = some k) : (Instr.keyThatStays v' v).run P w = .ok v w := by
 have e := zvh h h';subst e;have hs : Instr.sameBits 10000 v v = true := by
  cases kd with
  |str =>obtain⟨s,rfl,_⟩:=zii h;simp[Instr.sameBits,MapKept.bytes_beq]
  |int i =>obtain⟨s,rfl,_⟩:=zij h;simp[Instr.sameBits]
  |pair =>obtain⟨x,y,rfl,_⟩:=zf4 h;simp[Instr.sameBits]
 simp[Instr.keyThatStays,hs]

theorem zkz(ht : P.underlying T = some (.map K V))(h : kdOk P K kd = true)(hb : w.heap[b]? = some (.map es ck))(hes : ∀e ∈ es.toList, (kd.key e.key).isSome = true){kv x : Value}{k : KV}(hk : kd.key kv = some k) : ∃es' ck', (Instr.mapUpdate T (.map (some b)) kv x).run P w = .ok () { w with heap := w.heap.setIfInBounds b (.map es' ck') } ∧ (∀e ∈ es'.toList, (kd.key e.key).isSome = true) ∧ ∀k', findM kd es'.toList k' = if k' = k then some x else findM kd es.toList k' := by
 obtain⟨r,h1,h2,h3⟩:=zim (w:=w) h hk hes;simp only[Instr.mapUpdate,oD,oM ht,ow,MapKept.run_getObj_map hb];rw[show(10000:Nat)=9998+2 from rfl,zha h hk];simp only[ow,h1];cases r with
 |none =>
  refine⟨_,_,MapKept.run_setObj_map _ hb,fun e he=>?_,fun k'=>?_⟩
  ·grind
  simp only[Array.toList_push];rw[zl3];grind
 |some q =>
  obtain⟨i,y⟩:=q;obtain⟨e,he,hek,hf⟩:=h3 i y rfl;have he':es[i]?=some e:=vbY
  simp only[oD,he',Option.map_some,Option.getD_some,zzj hk hek];refine⟨_,_,MapKept.run_setObj_map _ hb,fun e' hm=>?_,fun k'=>?_⟩
  ·obtain ⟨j, hj, hje⟩ := oX hm;have hj' : (es.modify i fun e => { e with key := kv, val := x })[j]? = some e' := (by rw [← Array.getElem?_toList, oj hj, hje]);rw [Array.getElem?_modify] at hj';split at hj'
   ·simp only [oq] at hj';obtain ⟨_, _, rfl⟩ := hj';simp [hk]
   exact hes e' (Array.mem_toList_iff.2 (Array.mem_of_getElem? hj'))
  refine zoq (i:=i) (k:=k) (v:=x) vbZ (fun j e0 hj=>?_) ⟨e,he,hek⟩ (fun j e0 hj hje=>hf j e0 hj hje) k';have hj0:es[j]?=some e0:=by simpa using hj
  by_cases hij:i=j
  ·subst hij;rw [he'] at hj0;cases hj0;exact ⟨{ e with key := kv, val := x }, by simp [Array.getElem?_modify, he'], by simp [hk, hek], fun hne => absurd rfl hne, fun _ => rfl⟩
  exact⟨e0,by simp[Array.getElem?_modify,hij,hj0],rfl,fun _=>rfl,fun hne=>absurd hne.symm hij⟩
end
end Go.Lite

namespace Go.Lite
open Go Go.RowKit
open _root_.Nat renaming add_assoc→Yt, zero_add→yA, ble→yy, beq→yv
open Go.World renaming cell?→Yj
open _root_.Option renaming map_some→Yw
open _root_.List renaming getElem_mem→Ya, map_cons→YH

mutual
def ren(g : Nat → Nat) : LV → LV
  |.agg l=>.agg (renL g l)
  |.tup l=>.tup (renL g l)
  |.own id=>.own (g id)
  |.vp id off=>.vp (g id) off
  |.ap id sz i off=>.ap (g id) sz i off
  |.whn b v=>.whn b (ren g v)
  |.k b o=>.k b o
  |.er b=>.er b
  |.fv=>.fv
  |.any=>.any
  |.ifc t v=>.ifc t (ren g v)
  |.mp id=>.mp (g id)
  |.int k n=>.int k n
  |.bool b=>.bool b
  |.str s=>.str s
  |.ro fr sz n row=>.ro fr sz n row
  |.ep row off=>.ep row off
  |.nilS=>.nilS
  |.nilM=>.nilM
  |.rm kd m=>.rm kd m
  |.nilP=>.nilP
  |.fn f=>.fn f
  |.clo f l=>.clo f (renL g l)
def renL(g : Nat → Nat) : List LV → List LV
  |[]=>[]
  |v :: r=>ren g v :: renL g r
end
mutual
def dfr : LV → LV
  |.agg l=>.agg (dfrL l)
  |.tup l=>.tup (dfrL l)
  |.ro _ sz n row=>.ro false sz n fun i=>dfrL (row i)
  |.ep row off=>.ep (dfrL row) off
  |.own id=>.own id
  |.vp id off=>.vp id off
  |.ap id sz i off=>.ap id sz i off
  |.whn b v=>.whn b v
  |.k b o=>.k b o
  |.er b=>.er b
  |.fv=>.fv
  |.any=>.any
  |.ifc t v=>.ifc t (dfr v)
  |.mp id=>.mp id
  |.int k n=>.int k n
  |.bool b=>.bool b
  |.str s=>.str s
  |.nilS=>.nilS
  |.nilM=>.nilM
  |.rm kd m=>.rm kd m
  |.nilP=>.nilP
  |.fn f=>.fn f
  |.clo f l=>.clo f (dfrL l)
def dfrL : List LV → List LV
  |[]=>[]
  |v :: r=>dfr v :: dfrL r
end
def nrL(sz : Nat) : NR → LV
  |.row m r=>.ro false sz m fun k=>dfrL (r k)
  |.cell v=>dfr v
  |_=>.any
def nrE(wd:Nat)(f:NR→LV)(rows:Nat→NR)(i:Nat):List LV:=(List.range wd).map fun j=>f (rows (i * wd+j))
mutual
def zav(kv : Nat → Nat → Option LV)(blk : Nat → Option BC) : LV → Option LV
  |.agg l=>(zc8 kv blk l).map .agg
  |.tup l=>(zc8 kv blk l).map .tup
  | .own id => match blk id with
    |some (.arr sz n row)=>some (.ro false sz n fun i=>dfrL (row i))
    |some (.nest 1 _ sz n rows)=>some (.ro false 1 n fun i=>[nrL sz (rows i)])
    |some (.nest wd _ sz n rows)=>some (.ro false wd n (nrE wd (nrL sz) rows))
    |_=>none
  |.vp id off=>kv id off
  |.ap _ _ _ _=>none
  | .mp id => match blk id with
    |some (.mp kd m)=>some (.rm kd m)
    |_=>none
  |.rm kd m=>some (.rm kd m)
  |.whn _ _=>none
  |.k b o=>some (.k b o)
  |.er b=>some (.er b)
  |.fv=>some .fv
  |.any=>some .any
  |.ifc t v=>(zav kv blk v).map (.ifc t)
  |.ro _ sz n row=>some (.ro false sz n fun i=>dfrL (row i))
  |.ep row off=>some (.ep (dfrL row) off)
  |.int k n=>some (.int k n)
  |.bool b=>some (.bool b)
  |.str s=>some (.str s)
  |.nilS=>some .nilS
  |.nilM=>some .nilM
  |.nilP=>some .nilP
  |.fn f=>some (.fn f)
  |.clo f l=>(zc8 kv blk l).map (.clo f)
def zc8(kv : Nat → Nat → Option LV)(blk : Nat → Option BC) : List LV → Option (List LV)
  |[]=>some []
  | v :: r => match zav kv blk v, zc8 kv blk r with
    |some x,some xs=>some (x :: xs)
    |_,_=>none
end
def kvN(blk : Nat → Option BC) : Nat → Nat → Nat → Option LV
  |0,_,_=>none
  | n + 1, id, off => match blk id with
    | some (.var cs) => match zc8 (kvN blk n) blk cs with
      |some l=>some (.ep l off)
      |none=>none
    |_=>none
def zgn(blk:Nat→Option BC)(l:List LV):Option (List LV):=zc8 (kvN blk 3) blk l
mutual
def Frs : LV → Prop
  |.agg l=>FrsL l
  |.tup l=>FrsL l
  |.ro fr _ n row=>n=0∨(fr=true∧∀i,i<n→FrsL (row i))
  |.ep _ _=>False
  |.whn _ _=>False
  |.k _ _=>True
  |.er _=>True
  |.fv=>True
  |.any=>False
  |.ifc _ v=>Frs v
  |.mp _=>False
  |.own _=>True
  |.vp _ _=>False
  |.ap _ _ _ _=>False
  |.int _ _=>True
  |.bool _=>True
  |.str _=>True
  |.nilS=>True
  |.nilM=>True
  |.rm _ _=>False
  |.nilP=>True
  |.fn _=>True
  |.clo _ _=>False
def FrsL : List LV → Prop
  |[]=>True
  |v :: r=>Frs v∧FrsL r
end

theorem zdc(g : Nat → Nat) : ∀(l : List LV) (i : Nat), (renL g l)[i]? = (l[i]?).map (ren g)
  |[],i=>by simp[renL]
  |v :: r,0=>by simp[renL]
  |v :: r,i+1=>by simpa[renL] using zdc g r i
theorem zby(g : Nat → Nat) : ∀l : List LV, (renL g l).length = l.length
  |[]=>rfl
  |v :: r=>by simp[renL,zby g r]
theorem zbg : ∀(l : List LV) (i : Nat), (dfrL l)[i]? = (l[i]?).map dfr
  |[],i=>by simp[dfrL]
  |v :: r,0=>by simp[dfrL]
  |v :: r,i+1=>by simpa[dfrL] using zbg r i
theorem zb1 : ∀l : List LV, (dfrL l).length = l.length
  |[]=>rfl
  |v :: r=>by simp[dfrL,zb1 r]
theorem zv7:∀lv:LV,isOne (dfr lv)=isOne lv:=by intro lv;cases lv<;>simp[dfr,isOne]
theorem zjg{l:List LV}(h:∀lv∈l,isOne lv=true):∀lv∈dfrL l,isOne lv=true:=by intro lv hl;obtain⟨i,hi,e⟩:=oX hl;have h5:(dfrL l)[i]?=some lv:=vbY;rw[zbg] at h5;simp only[oq] at h5;obtain⟨y,hy,rfl⟩:=h5;rw[zv7];grind
theorem zee : ∀{l : List LV}, FrsL l → ∀(i : Nat) x, l[i]? = some x → Frs x
  |[],_,i,x,h=>by simp at h
  |v :: r,hf,0,x,h=>by simp[FrsL] at hf h;subst h;exact hf.1
  |v :: r,hf,i+1,x,h=>zee (l:=r) (by simp[FrsL] at hf;exact hf.2) i x vbK

section
variable {w:World} {B:Nat} {X:Nat→Prop} {E:Env}
theorem RepC.ren_eq{lv : LV}{v : Value}(h : RepC w B X lv v)(g : Nat → Nat) : ren g lv = lv := by
 have hl : ∀(l : List LV) (vs : Array Value), vs.size = l.length → (∀(i : Nat) lv v, l[i]? = some lv → vs[i]? = some v → ren g lv = lv) → renL g l = l := fun l vs hs hh => by
  apply List.ext_getElem?;intro i;rw[zdc];cases hi:l[i]? with
  |none =>rfl
  |some x =>have hlt:i<l.length:=(oE.1 hi).1;simp[hh i x (vs[i]' vbX) hi (oL vbX)]
 induction h with
 |agg l vs hs _ ih =>simp only[ren];rw[hl l vs hs ih]
 |tup l vs hs _ ih =>simp only[ren];rw[hl l vs hs ih]
 |clo f l vs hs _ ih =>simp only[ren];rw[hl l vs hs ih]
 |ifc t lv v _ ih =>simp only[ren];rw[ih]
 |_ =>rfl

theorem RepV.renamed{lv : LV}{v : Value}(h : RepV w B X E lv v){B' : Nat}{X' : Nat → Prop}{E' : Env}{g : Nat → Nat}(hB : B' ≤ B)(hX : ∀b, X' b → X b)(hE : ∀id, Ment lv id → E' (g id) = E id) : RepV w B' X' E' (ren g lv) v := by
 induction h with
 |c lv v h =>rw[h.ren_eq];exact .c _ _ (h.keep (ou _) (fun _ _ _=>rfl) (fun b hb=>.inl (hX b hb)) hB)
 |vp id off b hb =>exact .vp (g id) off b (by rw[hE id (.vp id off)];exact hb)
 |own id =>have:=hE id (.own id);rw[←this];exact .own (g id)
 | ap id sz i off b hb hi =>have:=hE id (.ap id sz i off);rw[←this] at hb hi ⊢;exact .ap (g id) sz i off b hb hi
 |mp id b hb =>exact .mp (g id) b (by rw[hE id (.mp id)];exact hb)
 |agg l vs hl _ ih =>refine .agg _ vs (by rw[zby];exact hl) fun i x u hx hu=>?_;rw[zdc] at hx;simp only[oq] at hx;obtain⟨y,hy,rfl⟩:=hx;exact ih i y u hy hu fun id hm=>hE id (.agg l y id (oW hy) hm)
 |tup l vs hl _ ih =>refine .tup _ vs (by rw[zby];exact hl) fun i x u hx hu=>?_;rw[zdc] at hx;simp only[oq] at hx;obtain⟨y,hy,rfl⟩:=hx;exact ih i y u hy hu fun id hm=>hE id (.tup l y id (oW hy) hm)
 |clo f l vs hl _ ih =>refine .clo f _ vs (by rw[zby];exact hl) fun i x u hx hu=>?_;rw[zdc] at hx;simp only[oq] at hx;obtain⟨y,hy,rfl⟩:=hx;exact ih i y u hy hu fun id hm=>hE id (.clo f l y id (oW hy) hm)
 |whn b lv v _ hn ih =>exact .whn b _ v (fun hb=>ih hb fun id hm=>hE id (.whn b lv id hb hm)) hn
 |ifc t lv v _ ih =>exact .ifc t _ v (ih fun id hm=>hE id (.ifc t lv id hm))

theorem RepC.dfr{lv : LV}{v : Value}(h : RepC w B X lv v)(B' : Nat) : RepC w B' (fun _ => False) (dfr lv) v := by
 induction h with
 |int k n =>exact .int k n
 |bool b =>exact .bool b
 |str s =>exact .str s
 |nilS =>exact .nilS
 |nilM =>exact .nilM
 |rm kd m b es ck hlt hX hc hm =>exact .rm kd m b es ck hlt (fun hf=>hf) hc hm
 |nilP =>exact .nilP
 |fn f =>exact .fn f
 |k b o =>exact .k b o
 |er b v h0 h1 =>exact .er b v h0 h1
 |fv f cs =>exact .fv f cs
 |fv0 =>exact .fv0
 |any A n c =>exact .any A n c
 |ifc t lv v _ ih =>exact .ifc t _ v ih
 |agg l vs hl _ ih =>refine .agg _ vs vbn fun i x u hx hu=>?_;rw[zbg] at hx;grind
 |tup l vs hl _ ih =>refine .tup _ vs vbn fun i x u hx hu=>?_;rw[zbg] at hx;grind
 |clo f l vs hl _ ih =>refine .clo f _ vs vbn fun i x u hx hu=>?_;rw[zbg] at hx;grind
 |ro fr sz n row A ad cap cv hcap hA hlt hX hb hsz ho hc _ ih =>refine .ro false sz n _ A ad cap cv hcap hA hlt (fun _ hf=>hf) (fun _ hf=>by cases hf) (fun i hi=>by rw[zb1];exact hsz i hi) (fun i hi=>zjg (ho i hi)) hc fun i j x hi hx=>?_;rw[zbg] at hx;grind
 |ep row off ad cv hlt hX hc _ ih =>refine .ep _ off ad cv hlt (fun hf=>hf) (fun j hj=>hc j (by rw[zb1] at hj;exact hj)) fun j x hx=>?_;rw[zbg] at hx;grind

theorem RepC.dfrX{lv : LV}{v : Value}(h : RepC w B X lv v) : RepC w B X (Lite.dfr lv) v := by
 induction h with
 |int k n =>exact .int k n
 |bool b =>exact .bool b
 |str s =>exact .str s
 |nilS =>exact .nilS
 |nilM =>exact .nilM
 |rm kd m b es ck hlt hX hc hm =>exact .rm kd m b es ck hlt hX hc hm
 |nilP =>exact .nilP
 |fn f =>exact .fn f
 |k b o =>exact .k b o
 |er b v h0 h1 =>exact .er b v h0 h1
 |fv f cs =>exact .fv f cs
 |fv0 =>exact .fv0
 |any A n c =>exact .any A n c
 |ifc t lv v _ ih =>exact .ifc t _ v ih
 |agg l vs hl _ ih =>refine .agg _ vs vbn fun i x u hx hu=>?_;rw[zbg] at hx;grind
 |tup l vs hl _ ih =>refine .tup _ vs vbn fun i x u hx hu=>?_;rw[zbg] at hx;grind
 |clo f l vs hl _ ih =>refine .clo f _ vs vbn fun i x u hx hu=>?_;rw[zbg] at hx;grind
 |ro fr sz n row A ad cap cv hcap hA hlt hX hb hsz ho hc _ ih =>refine .ro false sz n _ A ad cap cv hcap hA hlt hX (fun _ hf=>by cases hf) (fun i hi=>by rw[zb1];exact hsz i hi) (fun i hi=>zjg (ho i hi)) hc fun i j x hi hx=>?_;rw[zbg] at hx;grind
 |ep row off ad cv hlt hX hc _ ih =>refine .ep _ off ad cv hlt hX (fun j hj=>hc j (by rw[zb1] at hj;exact hj)) fun j x hx=>?_;rw[zbg] at hx;grind
theorem RepV.dfrX{E : Env}{lv : LV}{v : Value}(h : RepV w B X E lv v) : RepV w B X E (dfr lv) v := by
 induction h with
 |c lv v h =>exact .c _ _ h.dfrX
 |vp id off b hb =>exact .vp id off b hb
 |own id =>exact .own id
 |ap id sz i off b hb hi =>exact .ap id sz i off b hb hi
 |mp id b hb =>exact .mp id b hb
 |agg l vs hl _ ih =>refine .agg _ vs vbn fun i x u hx hu=>?_;rw[zbg] at hx;grind
 |tup l vs hl _ ih =>refine .tup _ vs vbn fun i x u hx hu=>?_;rw[zbg] at hx;grind
 |clo f l vs hl _ ih =>refine .clo f _ vs vbn fun i x u hx hu=>?_;rw[zbg] at hx;grind
 |whn b lv v h hn _ =>exact .whn b lv v h hn
 |ifc t lv v _ ih =>exact .ifc t _ v ih

theorem RepC.frs{lv : LV}{v : Value}(h : RepC w B X lv v)(hf : Frs lv) : RepC w B (fun b => b < B ∨ X b) lv v := by
 induction h with
 |int k n =>exact .int k n
 |bool b =>exact .bool b
 |str s =>exact .str s
 |nilS =>exact .nilS
 |nilM =>exact .nilM
 |rm =>exact absurd hf vbO
 |nilP =>exact .nilP
 |clo =>exact absurd hf vbO
 |fn f =>exact .fn f
 |k b o =>exact .k b o
 |er b v h0 h1 =>exact .er b v h0 h1
 |fv f cs =>exact .fv f cs
 |fv0 =>exact .fv0
 |any A n c =>exact absurd hf vbO
 |ifc t lv v _ ih =>exact .ifc t lv v (ih vbt)
 |agg l vs hl _ ih =>exact .agg l vs hl fun i x u hx hu=>ih i x u hx hu (zee vbt i x hx)
 |tup l vs hl _ ih =>exact .tup l vs hl fun i x u hx hu=>ih i x u hx hu (zee vbt i x hx)
 |ro fr sz n row A ad cap cv hcap hA hlt hX hb hsz ho hc _ ih =>
  have hf' : 0 < n → fr = true ∧ ∀i, i < n → FrsL (row i) := fun h0 => by
   rcases hf with hf | hf
   ·omega
   exact hf
  refine .ro fr sz n row A ad cap cv hcap hA hlt (fun h0 hx=>?_) hb hsz ho hc fun i j x hi hx=>ih i j x hi hx (zee ((hf' vbX).2 i hi) j x hx);grind
 |ep row off ad cv hlt hX hc _ ih =>exact absurd hf vbO
end

def RepA(w:World)(lv:LV)(v:Value):Prop:=∀B,RepC w B (fun _=>False) lv v

theorem z19{w : World}{B0 : Nat}{X : Nat → Prop}{e : EI}{sz n : Nat}{row : Nat → List LV}(h : ArrOk w B0 X e sz n row) : RepA w (.ro false sz n fun i => dfrL (row i)) e.val := by
 intro B;obtain⟨hn,hk⟩:=h;rcases hk with⟨_,k2,k3⟩ | ⟨b,cap,vs,T',k1,k2,k3,k4,k5,k6,k7,k8⟩
 ·subst k3;rw [k2];exact .ro false sz 0 _ none ⟨0, 0, none⟩ 0 (fun _ _ => undef) (ou _) (fun h => absurd h vbX) (fun h => absurd h vbX) (fun h => absurd h vbX) (fun h => absurd h vbX) (fun i hi => absurd hi vbX) (fun i hi => absurd hi vbX) (fun i j hi => absurd hi vbX) fun i j lv hi => absurd hi vbX
 rw[k2];have hbd:∀i j,i<n→j<sz→e.off+i * sz+j<vs.size:=fun i j hi hj=>by have h1:i * sz+sz≤cap * sz:=va7;omega
 refine .ro false sz n _ (some ⟨b,e.off,none⟩) ⟨b,e.off,none⟩ cap (fun i j=>vs.getD (e.off+i * sz+j) undef) k5 (fun _=>rfl) (fun _=>(oI.1 k4).1) (fun _ hf=>hf) (fun _ hf=>by cases hf) (fun i hi=>by rw[zb1];exact(k8 i hi).1) (fun i hi=>zjg (k8 i hi).2.1) (fun i j hi hj=>?_) fun i j lv hi hl=>?_
 ·rw [za1, ← Yt];have := hbd i j hi hj;simp [Yj, k4, this]
 rw[zbg] at hl;simp only[oq] at hl;obtain⟨y,hy,rfl⟩:=hl;have hj:j<sz:=vbY
 have:=hbd i j hi hj;exact((k8 i hi).2.2 j y (vs.getD (e.off+i * sz+j) undef) hy (by simp[this])).dfr B
theorem nr_rep{w : World}{B0 : Nat}{X : Nat → Prop}{E : Env}{sz : Nat}{ek : EI}{v : Value}{r : NR}(h : NROk w B0 X E sz ek v r) : RepA w (nrL sz r) v := by
 cases r with
 |row n row =>obtain⟨rfl,h⟩:=h;exact z19 h
 |out id =>obtain rfl:v=(E id).val:=h;exact fun B=>.any _ _ _
 |gone =>obtain⟨A,n,c,rfl⟩:=h;exact fun B=>.any A n c
 |cell lv =>exact fun B=>h.2.dfr B
theorem z1l{f:NR→LV}{rows:Nat→NR}:nrE 1 f rows=fun i=>[f (rows i)]:=by funext i;simp[nrE,List.range_succ]
theorem zu2{wd:Nat}{f:NR→LV}{rows:Nat→NR}{i j:Nat}{lv:LV}(h:(nrE wd f rows i)[j]?=some lv):j<wd∧lv=f (rows (i * wd+j)):=by simp only[nrE] at h;grind
theorem zko{i j n wd:Nat}(hi:i<n)(hj:j<wd):i * wd+j<cN wd n:=by rw[cN_eq];have h1:i * wd+wd≤n * wd:=(by rw[←Nat.succ_mul];exact oU wd hi);omega
theorem z1m{wd:Nat}{f:NR→LV}{rows:Nat→NR}{i:Nat}:(nrE wd f rows i).length=wd:=by simp[nrE]
theorem zq9{w : World}{B0 : Nat}{X : Nat → Prop}{E : Env}{id wd sz n : Nat}{cl : Bool}{rows : Nat → NR}(h : BlkOk w B0 X E id (.nest wd cl sz n rows)) : RepA w (.ro false wd n (nrE wd (nrL sz) rows)) (E id).val := by
 obtain⟨ek,_,hn,hk⟩:=h;intro B;rcases hk with⟨_,k2,k3⟩ | ⟨b,cap,vs,T',k1,k2,k3,k4,k5,k6,k7,k8⟩
 ·subst k3;rw [k2];exact .ro false wd 0 _ none ⟨0, 0, none⟩ 0 (fun _ _ => undef) (ou _) (fun h => absurd h vbX) (fun h => absurd h vbX) (fun h => absurd h vbX) (fun h => absurd h vbX) (fun i hi => absurd hi vbX) (fun i hi => absurd hi vbX) (fun i j hi => absurd hi vbX) fun i j lv hi => absurd hi vbX
 rw[k2];refine .ro false wd n _ (some ⟨b,(E id).off,none⟩) ⟨b,(E id).off,none⟩ cap (fun i j=>vs.getD ((E id).off+(i * wd+j)) undef) k5 (fun _=>rfl) (fun _=>(oI.1 k4).1) (fun _ hf=>hf) (fun _ hf=>by cases hf) (fun i hi=>z1m) (fun i hi lv hl=>?_) (fun i j hi hj=>?_) fun i j lv hi hl=>?_
 ·obtain ⟨j, hj⟩ := List.getElem?_of_mem hl;obtain ⟨h1, rfl⟩ := zu2 hj;have h8 := k8 _ (zko hi h1);cases hr : rows (i * wd + j) with
  |row m r =>rfl
  |out id =>rfl
  |gone =>rfl
  |cell v =>rw[hr] at h8;show isOne (dfr v)=true;rw[zv7];exact h8.1
 ·rw [za1];have h1 : (E id).off + (i * wd + j) < vs.size := by have := zko (Nat.lt_of_lt_of_le hi k5) hj;omega
  simp[Yj,k4,h1]
 obtain⟨h1,rfl⟩:=zu2 hl;exact nr_rep (k8 _ (zko hi h1)) B
mutual
theorem zma{N : Nat}{kv : Nat → Nat → Option LV}{w0 : World}{X0 : Fr}{σ : FS}{E : Env}{a : Act}{w : World}(hs : Sat N w0 X0 σ E a w)(hkv : ∀id off x v, kv id off = some x → RepV w w0.heap.size (Own σ E X0) E (.vp id off) v → RepA w x v) : ∀{lv x : LV} {v : Value}, zav kv σ.blk lv = some x →
    RepV w w0.heap.size (Own σ E X0) E lv v→RepA w x v
  |.agg l, x, v, h, hr => by
    simp only[zav,oq] at h
    obtain⟨l',h1,rfl⟩:=h
    obtain⟨vs,rfl,hl,hh⟩:=hr.agg_inv
    obtain⟨g1,g2⟩:=zc7 hs hkv h1
    exact fun B => .agg l' vs vbX fun i y u hy hu => by
      obtain⟨z,hz,hz2⟩:=g2 i y hy
      exact hz2 u (hh i z u hz hu) B
  |.tup l, x, v, h, hr => by
    simp only[zav,oq] at h
    obtain⟨l',h1,rfl⟩:=h
    obtain⟨vs,rfl,hl,hh⟩:=hr.tup_inv
    obtain⟨g1,g2⟩:=zc7 hs hkv h1
    exact fun B => .tup l' vs vbX fun i y u hy hu => by
      obtain⟨z,hz,hz2⟩:=g2 i y hy
      exact hz2 u (hh i z u hz hu) B
  |.own id, x, v, h, hr => by
    simp only[zav] at h
    split at h
    · rename_i sz n row hb
      cases h
      have e:=hr.own_inv
      subst e
      intro B
      obtain⟨hn,hk⟩:=hs.blks id _ hb
      rcases hk with⟨_,k2,k3⟩ | ⟨b,cap,vs,T',k1,k2,k3,k4,k5,k6,k7,k8⟩
      · subst k3
        rw[k2]
        exact .ro false sz 0 _ none ⟨0, 0, none⟩ 0 (fun _ _ => undef) (ou _) (fun h => absurd h vbX) (fun h => absurd h vbX) (fun h => absurd h vbX) (fun h => absurd h vbX)
          (fun i hi=>absurd hi vbX) (fun i hi=>absurd hi vbX) (fun i j hi=>absurd hi vbX) fun i j lv hi=>absurd hi vbX
      · rw [k2]
        have hbd : ∀i j, i < n → j < sz → (E id).off + i * sz + j < vs.size := fun i j hi hj => by
          have h1:i * sz+sz≤cap * sz:=va7
          omega
        refine .ro false sz n _ (some ⟨b, (E id).off, none⟩) ⟨b, (E id).off, none⟩ cap (fun i j => vs.getD ((E id).off + i * sz + j) undef) k5 (fun _ => rfl) (fun _ => (oI.1 k4).1) (fun _ hf => hf)
          (fun _ hf=>by cases hf) (fun i hi=>by rw[zb1];exact(k8 i hi).1) (fun i hi=>zjg (k8 i hi).2.1) (fun i j hi hj=>?_) fun i j lv hi hl=>?_
        · rw [za1,← Yt]
          have:=hbd i j hi hj
          simp[Yj,k4,this]
        · rw [zbg] at hl
          simp only[oq] at hl
          obtain⟨y,hy,rfl⟩:=hl
          have hj : j < sz := by
            rw[←(k8 i hi).1]
            exact(oE.1 hy).1
          have:=hbd i j hi hj
          exact((k8 i hi).2.2 j y (vs.getD ((E id).off+i * sz+j) undef) hy (by simp[this])).dfr B
    · rename_i cl sz n rows hb
      cases h
      have e:=hr.own_inv
      subst e
      have:=zq9 (hs.blks id _ hb)
      rw[z1l] at this
      exact this
    · rename_i wd cl sz n rows _ hb
      cases h
      have e:=hr.own_inv
      subst e
      exact zq9 (hs.blks id _ hb)
    · cases h
  |.ro fr sz n row,x,v,h,hr=>by simp only[zav,oo] at h;subst h;exact fun B=>(hr.ro_inv).dfr B
  |.ep row off,x,v,h,hr=>by simp only[zav,oo] at h;subst h;exact fun B=>(hr.ep_inv).dfr B
  |.int k n,x,v,h,hr=>by simp only[zav,oo] at h;subst h;rw[hr.int_inv];exact fun B=>.int k n
  |.bool b,x,v,h,hr=>by simp only[zav,oo] at h;subst h;rw[hr.bool_inv];exact fun B=>.bool b
  |.str s,x,v,h,hr=>by simp only[zav,oo] at h;subst h;rw[hr.str_inv];exact fun B=>.str s
  |.nilS,x,v,h,hr=>by simp only[zav,oo] at h;subst h;rw[hr.nilS_inv];exact fun B=>.nilS
  |.rm _ _,x,v,h,hr=>by simp only[zav,oo] at h;subst h;exact fun B=>(hr.rm_inv).dfr B
  |.nilM,x,v,h,hr=>by simp only[zav,oo] at h;subst h;rw[hr.nilM_inv];exact fun B=>.nilM
  |.nilP,x,v,h,hr=>by simp only[zav,oo] at h;subst h;rw[hr.nilP_inv];exact fun B=>.nilP
  |.clo f l, x, v, h, hr => by
    simp only[zav,oq] at h
    obtain⟨l',h1,rfl⟩:=h
    obtain⟨vs,rfl,hl,hh⟩:=hr.clo_inv
    obtain⟨g1,g2⟩:=zc7 hs hkv h1
    exact fun B => .clo f l' vs vbX fun i y u hy hu => by
      obtain⟨z,hz,hz2⟩:=g2 i y hy
      exact hz2 u (hh i z u hz hu) B
  |.fn f,x,v,h,hr=>by simp only[zav,oo] at h;subst h;rw[hr.fn_inv];exact fun B=>.fn f
  |.vp id off,x,v,h,hr=>by simp only[zav] at h;exact hkv id off x v h hr
  |.ap _ _ _ _,x,v,h,hr=>by simp[zav] at h
  |.whn _ _,x,v,h,hr=>by simp[zav] at h
  |.k b o,x,v,h,hr=>by simp only[zav,oo] at h;subst h;rw[hr.k_inv];exact fun B=>.k b o
  |.er b,x,v,h,hr=>by simp only[zav,oo] at h;subst h;exact fun B=>(hr.er_inv).dfr B
  |.fv,x,v,h,hr=>by simp only[zav,oo] at h;subst h;exact fun B=>(hr.fv_inv).dfr B
  |.any,x,v,h,hr=>by simp only[zav,oo] at h;subst h;exact fun B=>(hr.any_inv).dfr B
  |.ifc t y, x, v, h, hr => by
    simp only[zav,oq] at h
    obtain⟨y',h1,rfl⟩:=h
    obtain⟨u,rfl,hu⟩:=hr.ifc_inv
    exact fun B=>.ifc t y' u (zma hs hkv h1 hu B)
  |.mp id, x, v, h, hr => by
    simp only[zav] at h
    split at h
    · rename_i kd m hb
      cases h
      obtain⟨b,g1,rfl⟩:=hr.mp_inv
      obtain⟨b',es,ck,k1,k2,k3,k4⟩:=hs.blks id _ hb
      rw[g1] at k1;cases k1
      exact fun B=>.rm kd m b es ck (oI.1 k3).1 (fun hf=>hf) k3 k4
    · cases h
theorem zc7{N : Nat}{kv : Nat → Nat → Option LV}{w0 : World}{X0 : Fr}{σ : FS}{E : Env}{a : Act}{w : World}(hs : Sat N w0 X0 σ E a w)(hkv : ∀id off x v, kv id off = some x → RepV w w0.heap.size (Own σ E X0) E (.vp id off) v → RepA w x v) : ∀{l l' : List LV}, zc8 kv σ.blk l = some l' →
    l'.length=l.length∧∀(i:Nat) x,l'[i]?=some x→∃z,l[i]?=some z∧∀v,RepV w w0.heap.size (Own σ E X0) E z v→RepA w x v
  |[],l',h=>by simp only[zc8,oo] at h;subst h;exact⟨rfl,fun i x hx=>by simp at hx⟩
  |y :: r, l', h => by
    simp only[zc8] at h
    split at h
    · rename_i x xs h1 h2
      cases h
      obtain⟨g1,g2⟩:=zc7 hs hkv h2
      refine⟨by simp[g1],fun i z hz=>?_⟩
      cases i with
      |zero=>simp at hz;subst hz;exact⟨y,vbZ,fun v hv=>zma hs hkv h1 hv⟩
      |succ i=>simpa using g2 i z (by simpa using hz)
    · cases h
end
theorem zvg{N : Nat}{w0 : World}{X0 : Fr}{σ : FS}{E : Env}{a : Act}{w : World}(hs : Sat N w0 X0 σ E a w) : ∀(n id off : Nat) (x : LV) (v : Value), kvN σ.blk n id off = some x → RepV w w0.heap.size (Own σ E X0) E (.vp id off) v → RepA w x v
  |0,id,off,x,v,h,hr=>by cases h
  |n + 1, id, off, x, v, h, hr => by
    simp only[kvN] at h
    split at h
    · rename_i cs hb
      split at h
      · rename_i l h1
        obtain⟨g1,g2⟩:=zc7 hs (zvg hs n) h1
        obtain⟨b,k1,rfl⟩:=hr.vp_inv
        obtain⟨b',vs,T,q1,q2,q3,q4,q5⟩:=hs.blks id _ hb
        rw[k1] at q1;cases q1
        intro B
        have := RepC.ep (w := w) (B := B) (X := fun _ => False) l off ⟨b, 0, none⟩ (fun j => vs.getD j undef) ((oI.1 q3).1) (fun hf => hf) (fun j hj => by
          rw[za1,yA]
          have hj':j<vs.size:=vbX
          simp[Yj,q3,hj']) (fun j y hy=>by
          obtain⟨z,hz,hz2⟩:=g2 j y hy
          have hj:j<vs.size:=vbY
          exact hz2 _ (q5 j z _ hz (by simp[hj])) B)
        rw[za1,yA] at this
        grind
      · cases h
    · cases h
theorem zl9{N:Nat}{w0:World}{X0:Fr}{σ:FS}{E:Env}{a:Act}{w:World}(hs:Sat N w0 X0 σ E a w){l l':List LV}(h:zgn σ.blk l=some l'):l'.length=l.length∧∀(i:Nat) x,l'[i]?=some x→∃z,l[i]?=some z∧∀v,RepV w w0.heap.size (Own σ E X0) E z v→RepA w x v:=zc7 hs (zvg hs 3) h

def ResB : BC → Prop
  |.arr _ _ _=>True
  |.nest _ cl _ _ _=>cl=true
  |_=>False
def OwnR(B:Nat)(arrs:List BC)(E:Env):Nat→Prop:=fun b=>b<B∨∃i,OwnAt (fun i=>arrs[i]?) E i b
def ResOk(w' : World)(B : Nat)(r : LV)(arrs : List BC)(v : Value) : Prop :=
  ∃ E : Env, RepV w' B (OwnR B arrs E) E r v ∧
    (∀(i:Nat) c,arrs[i]?=some c→BlkOk w' B (OwnR B arrs E) E i c∧ResB c) ∧
    (∀i j b,OwnAt (fun i=>arrs[i]?) E i b→OwnAt (fun i=>arrs[i]?) E j b→i=j)∧∀id,Ment r id→arrs[id]?≠none

def Fn(P : Program)(f : FuncId)(args : List LV)(r : LV)(arrs : List BC) : Prop :=
  ∀ (w : World) (vals : List Value), GH w → vals.length = args.length → (∀ (i : Nat) lv v, args[i]? = some lv → vals[i]? = some v → RepA w lv v) →
    Calls P f vals.toArray w fun e w'=>∃v,e=.returned v∧Below w.heap.size w w'∧ResOk w' w.heap.size r arrs v

def resId(d k:Nat):Nat:=1000 * (k+1)+d
def resB(d:Nat)(arrs:List BC):Nat→Option BC:=fun j=>bif(yy (1000+d) j&&yv ((j - d) % 1000) 0) then arrs[(j - d) / 1000 - 1]? else none
theorem zul(d k:Nat)(arrs:List BC):resB d arrs (resId d k)=arrs[k]?:=by have h1:yy (1000+d) (resId d k)=true:=oZ (by unfold resId;omega);have h2:(resId d k - d) % 1000=0:=(by unfold resId;omega);have h3:(resId d k - d) / 1000 - 1=k:=(by unfold resId;omega);simp[resB,h1,h2,h3]
theorem zhb{d j : Nat}{arrs : List BC}{c : BC}(h : resB d arrs j = some c) : ∃k, j = resId d k ∧ arrs[k]? = some c := by
 unfold resB at h;cases h1:(yy (1000+d) j&&yv ((j - d) % 1000) 0) with
 |false =>rw[h1] at h;cases h
 |true =>rw[h1] at h;simp only[oc] at h1;have g1:=oS h1.1;have g2:=om h1.2;exact⟨(j - d) / 1000 - 1,by unfold resId;omega,h⟩

theorem BlkOk.move{w : World}{B B' : Nat}{X X' : Nat → Prop}{E E' : Env}{i i' : Nat}{c : BC}(h : BlkOk w B X E i c)(hc : ResB c)(hB : B' ≤ B)(hX : ∀b, X' b → X b)(hE : E' i' = E i)(hS : ∀b, E'.s i' b ↔ E.s i b) : BlkOk w B' X' E' i' c := by
 cases c with
 |bld T e s =>exact hc.elim
 |var cells =>exact hc.elim
 |mp kd m =>exact hc.elim
 |arr sz n row =>have h':ArrOk w B X (E i) sz n row:=h;have:=h'.keep (ou _) (fun _ _=>rfl) (fun _ _ _=>rfl) (fun b hb=>.inl (hX b hb)) hB;rw[←hE] at this;exact this
 |nest wd cl sz n rows =>
  obtain⟨ek,hs,hn,hh⟩:=h;refine⟨ek,⟨fun b=>(hS b).trans (hs.iff b),hs.inj,by rw[hE];exact hs.ne,hs.cl⟩,by rw[hE];exact hn,?_⟩;rw[hE];rcases hh with g | ⟨b',cap,vs,T,k1,k2,k3,k4,k5,k6,k7,k8⟩
  ·grind
  exact .inr ⟨b',cap,vs,T,k1,k2,Nat.le_trans hB k3,k4,k5,k6,k7,fun k hk=>(k8 k hk).keep (ou _) (fun _ _ _=>rfl) (fun _ _ _=>rfl) (fun b hb=>.inl (hX b hb)) hB fun id hid=>absurd hid (hs.cl hc k id hk)⟩
theorem BlkOk.ge{w : World}{B : Nat}{X : Nat → Prop}{E : Env}{i b : Nat}{c : BC}(h : BlkOk w B X E i c)(hb : (E i).b = some b ∨ (Mul (some c) ∧ E.s i b)) : B ≤ b := by
 rcases hb with hb | ⟨hm,hb⟩
 ·cases c with
  |bld T e s =>obtain⟨b,v,p,h1,h2,_⟩:=h;rw[hb] at h1;cases h1;exact h2.1
  |var cells =>obtain⟨b,_,_,h1,h2,_⟩:=h;rw[hb] at h1;cases h1;exact h2
  |mp kd m =>obtain⟨b,_,_,h1,h2,_⟩:=h;rw[hb] at h1;cases h1;exact h2
  |arr sz n row =>
   rcases h.2 with h | ⟨b,_,_,_,h1,_,h2,_⟩
   ·grind
   grind
  |nest wd cl sz n rows =>obtain⟨_,_,_,h⟩:=h;grind
 rcases zi9 hm with⟨wd,cl,sz,n,rows,hc⟩ | ⟨T,e,s,hc⟩
 ·cases hc; exact (h.nestSub hb).2.1
 cases hc;exact(h.bldSub hb).2.1
theorem Sat.called{N : Nat}{w0 : World}{X0 : Fr}{σ : FS}{E : Env}{a : Act}{w w' : World}(h : Sat N w0 X0 σ E a w)(hb : Below w.heap.size w w'){r : LV}{arrs : List BC}{v : Value}(hr : ResOk w' w.heap.size r arrs v)(d : Nat)(hfr : ∀j, resB d arrs j ≠ none → σ.used j = false) : ∃E', Sat N w0 X0 (σ.upd noK (resB d arrs)) E' a w' ∧ RepV w' w0.heap.size (Own (σ.upd noK (resB d arrs)) E' X0) E' (ren (resId d) r) v ∧ ∀id, Ment (ren (resId d) r) id → (σ.upd noK (resB d arrs)).used id = true := by
 obtain ⟨Er, h1, h2, h3, h4⟩ := hr;let U : Nat → Option (BC × EI) := fun j => (resB d arrs j).map fun c => (c, Er ((j - d) / 1000 - 1));let S : Nat → Nat → Prop := fun j => Er.s ((j - d) / 1000 - 1);have hU : (fun j => (U j).map (·.1)) = resB d arrs := by funext j; simp [U]; cases resB d arrs j <;> rfl
 have hk3:∀k,(resId d k - d) / 1000 - 1=k:=fun k=>by unfold resId;omega
 have hUid:∀k c,arrs[k]?=some c→U (resId d k)=some (c,Er k):=fun k c hc=>by simp[U,zul,hc,hk3]
 have hUs:∀j x,U j=some x→∃k,j=resId d k∧arrs[k]?=some x.1∧x.2=Er k:=fun j x hx=>by simp only[U,oq] at hx;obtain⟨c,hc,rfl⟩:=hx;obtain⟨k,rfl,hk⟩:=zhb hc;grind
 have hSs:∀k,S (resId d k)=Er.s k:=fun k=>by simp[S,hk3]
 have hat : ∀j x b, U j = some x → (x.2.b = some b ∨ (Mul (some x.1) ∧ S j b)) → ∃k, j = resId d k ∧ OwnAt (fun i => arrs[i]?) Er k b := fun j x b hx hxb => by
  obtain⟨k,rfl,hk,he⟩:=hUs j x hx;refine⟨k,rfl,?_⟩;rcases hxb with hxb | ⟨hm,hxb⟩
  ·rw [he] at hxb; exact .inl ⟨by simp only [hk]; simp, hxb⟩
  rw[hSs] at hxb;exact .inr ⟨by simp only[hk];exact hm,hxb⟩
 have hX : ∀b, Own (σ.setF noK U) (E.setFS U S) X0 b → OwnR w.heap.size arrs Er b := fun b hbo => by
  rcases hbo with hbo | ⟨j,hj⟩
  ·exact .inl (h.xlt hbo)
  cases hUj:U j with
  |some x =>
   have hbk:(σ.setF noK U).blk j=some x.1:=(by simp[FS.setF,hUj])
   obtain ⟨k, _, hk⟩ := hat j x b hUj (by
     rcases hj with⟨_,hj⟩ | ⟨hm,hj⟩
     · simp only [Env.setFS,hUj] at hj;exact .inl hj
     · simp only [Env.setFS,hUj] at hj;rw [hbk] at hm;exact .inr ⟨hm,hj⟩)
   exact .inr ⟨k,hk⟩
  |none =>
   have hbk : (σ.setF noK U).blk j = σ.blk j := (by simp[FS.setF, hUj, noK]);have : OwnAt σ.blk E j b := by
    rcases hj with⟨h5,hj⟩ | ⟨hm,hj⟩
    ·simp only [Env.setFS, hUj] at hj; rw [hbk] at h5; exact .inl ⟨h5, hj⟩
    simp only[Env.setFS,hUj] at hj;rw[hbk] at hm;exact .inr ⟨hm,hj⟩
   exact .inl (h.olt this)
 refine⟨E.setFS U S,?_,?_,?_⟩
 ·rw [← hU, ← FS.setF_eq];refine h.setFS noK U S (fun i x hx => ?_) hb.size (fun b hlt' _ => hb.block b hlt') (fun i x b hx hxb => ?_) (fun i j x y b hx hy hxb hyb => ?_) (h.below.trans (hb.mono h.below.size)) (fun i cells ei lv id hx => ?_) (fun i wd cl sz n rows ei k id hx hk hid => ?_) fun i x hx => ?_
  ·grind
  ·obtain ⟨k, rfl, hk, he⟩ := hUs i x hx;refine .inl ((h2 k _ hk).1.ge ?_);grind
  ·obtain ⟨k, rfl, hk⟩ := hat i x b hx hxb;obtain ⟨m, rfl, hm⟩ := hat j y b hy hyb;rw [h3 k m b hk hm]
  ·obtain ⟨k, rfl, hk, _⟩ := hUs i _ hx;exact ((h2 k _ hk).2).elim
  ·obtain ⟨m, rfl, hm, _⟩ := hUs i _ hx;obtain ⟨ek, hs9, _⟩ := (h2 m _ hm).1;exact absurd hid (hs9.cl (h2 m _ hm).2 k id hk)
  obtain⟨k,rfl,hk,he⟩:=hUs i x hx;have hEi:(E.setFS U S) (resId d k)=Er k:=by simp[Env.setFS,hx,he]
  have hSi:(E.setFS U S).s (resId d k)=Er.s k:=by simp[Env.setFS,hx,hSs]
  exact(h2 k _ hk).1.move (h2 k _ hk).2 h.below.size hX hEi fun b=>by rw[hSi]
 ·rw [← hU, ← FS.setF_eq];refine h1.renamed h.below.size hX fun id hm => ?_;obtain ⟨c, hc⟩ := oN.1 (h4 id hm);simp [Env.setFS, hUid id c hc]
 intro id hm;have : ∃k, id = resId d k ∧ Ment r k := by
  have key : ∀{lv : LV} {v : Value} {E : Env} {w : World} {B : Nat} {X : Nat → Prop}, RepV w B X E lv v → ∀id, Ment (ren (resId d) lv) id → ∃k, id = resId d k ∧ Ment lv k := by
   intro lv v E w B X hr;induction hr with
   |c lv v h =>intro id hm;rw[h.ren_eq] at hm;exact absurd hm (h.noMent id)
   |vp i off b _ =>intro id hm;cases hm;exact⟨i,rfl,.vp i off⟩
   |own i =>intro id hm;cases hm;exact⟨i,rfl,.own i⟩
   |ap i sz m off b _ _ =>intro id hm;cases hm;exact⟨i,rfl,.ap i sz m off⟩
   |mp i b _ =>intro id hm;cases hm;exact⟨i,rfl,.mp i⟩
   |agg l vs hl _ ih =>
    intro id hm;cases hm with
    |agg _ y _ hy hm' =>obtain⟨i,hi,e⟩:=oX hy;have hi':i<l.length:=(by rw[zby] at hi;exact hi);have h5:(renL (resId d) l)[i]?=some y:=(by rw[oj hi,e]);rw[zdc,oj hi'] at h5;simp only[Yw,oo] at h5;subst h5;obtain⟨k,h6,h7⟩:=ih i l[i] (vs[i]' vbX) (oj hi') (oL vbX) id hm';exact⟨k,h6,.agg l _ k (Ya hi') h7⟩
   |tup l vs hl _ ih =>
    intro id hm;cases hm with
    |tup _ y _ hy hm' =>obtain⟨i,hi,e⟩:=oX hy;have hi':i<l.length:=(by rw[zby] at hi;exact hi);have h5:(renL (resId d) l)[i]?=some y:=(by rw[oj hi,e]);rw[zdc,oj hi'] at h5;simp only[Yw,oo] at h5;subst h5;obtain⟨k,h6,h7⟩:=ih i l[i] (vs[i]' vbX) (oj hi') (oL vbX) id hm';exact⟨k,h6,.tup l _ k (Ya hi') h7⟩
   |clo f l vs hl _ ih =>
    intro id hm;cases hm with
    |clo _ _ y _ hy hm' =>obtain⟨i,hi,e⟩:=oX hy;have hi':i<l.length:=(by rw[zby] at hi;exact hi);have h5:(renL (resId d) l)[i]?=some y:=(by rw[oj hi,e]);rw[zdc,oj hi'] at h5;simp only[Yw,oo] at h5;subst h5;obtain⟨k,h6,h7⟩:=ih i l[i] (vs[i]' vbX) (oj hi') (oL vbX) id hm';exact⟨k,h6,.clo f l _ k (Ya hi') h7⟩
   |whn b lv v hh hn ih =>
    intro id hm;cases hm with
    |whn _ _ _ hb hm' =>obtain⟨k,h6,h7⟩:=ih hb id hm';exact⟨k,h6,.whn _ _ k hb h7⟩
   |ifc t lv v _ ih =>
    intro id hm;cases hm with
    |ifc _ _ _ hm' =>obtain⟨k,h6,h7⟩:=ih id hm';exact⟨k,h6,.ifc _ _ k h7⟩
  exact key h1 id hm
 obtain⟨k,rfl,hk⟩:=this;obtain⟨c,hc⟩:=oN.1 (h4 k hk);simp[FS.upd,zul,hc]

def look{α : Type} : List (Nat × α) → Nat → Option α
  |[],_=>none
  |x :: r,t=>bif yv x.1 t then some x.2 else look r t
theorem za2{α : Type}(d : Nat)(x : α)(l : List (Nat × α)) : look ((d, x) :: l) = fun t => if t = d then some x else look l t := by
 funext t;simp only[look];by_cases h:t=d
 ·simp_all
 have : yv d t = false := by
  cases hb:yv d t with
  |true =>exact absurd (om hb).symm h
  |false =>rfl
 grind

mutual
def zdw(u : Nat → Bool) : LV → Bool
  |.agg l=>zdh u l
  |.tup l=>zdh u l
  |.vp id _=>u id
  |.own id=>u id
  |.ap id _ _ _=>u id
  |.mp id=>u id
  |.whn _ v=>zdw u v
  |.k _ _=>true
  |.er _=>true
  |.fv=>true
  |.any=>true
  |.ifc _ v=>zdw u v
  |.int _ _=>true
  |.bool _=>true
  |.str _=>true
  |.ro _ _ _ _=>true
  |.ep _ _=>true
  |.nilS=>true
  |.nilM=>true
  |.rm _ _=>true
  |.nilP=>true
  |.clo _ l=>zdh u l
  |.fn _=>true
def zdh(u : Nat → Bool) : List LV → Bool
  |[]=>true
  |v :: r=>zdw u v&&zdh u r
end
theorem zbk{u : Nat → Bool} : ∀{l : List LV}, zdh u l = true → ∀v ∈ l, zdw u v = true
  |[],_,v,hv=>by cases hv
  |x :: l, h, v, hv => by
    simp only[zdh,oc] at h
    rcases oQ.1 hv with e | hv
    · grind
    · exact zbk h.2 v hv
theorem zbx{u : Nat → Bool}{lv : LV}{id : Nat}(hm : Ment lv id) : zdw u lv = true → u id = true := by
 induction hm with
 |vp id off =>exact fun h=>h
 |own id =>exact fun h=>h
 |ap id sz i off =>exact fun h=>h
 |mp id =>exact fun h=>h
 |agg l lv id hl _ ih =>exact fun h=>ih (zbk vbh lv hl)
 |tup l lv id hl _ ih =>exact fun h=>ih (zbk vbh lv hl)
 |clo f l lv id hl _ ih =>exact fun h=>ih (zbk vbh lv hl)
 |whn b lv id _ _ ih =>exact fun h=>ih vbh
 |ifc t lv id _ ih =>exact fun h=>ih vbh

def preB(bl:List BC)(i:Nat):Option BC:=bif yy 900000 i then bl[i - 900000]? else none
def OwnB(xo:Nat→Prop)(bs:Nat→Option BC)(E:Env):Nat→Prop:=fun b=>xo b∨∃i,OwnAt bs E i b
structure BlksOk(w : World)(B : Nat)(xo : Nat → Prop)(E : Env)(bs : Nat → Option BC) : Prop where
  ok:∀i c,bs i=some c→BlkOk w B (OwnB xo bs E) E i c
  inj:∀i j b,OwnAt bs E i b→OwnAt bs E j b→i=j
  ment:∀i cells lv id,bs i=some (.var cells)→lv∈cells→Ment lv id→bs id≠none
  out:∀i wd cl sz n rows,bs i=some (.nest wd cl sz n rows)→cl=true
def FnG(C : Array Value → World → (Ending → World → Prop) → Prop)(args : List LV)(bl : List BC)(r : LV)(rbl : List (Nat × BC)) : Prop :=
  ∀ (w0 w : World) (xo : Nat → Prop) (vals : List Value) (E : Env), GH w0 → vals.length = args.length → Below w0.heap.size w0 w →
    (∀b,xo b→b<w.heap.size∧∀i,¬OwnAt (preB bl) E i b)→(∀b,xo b→w0.heap.size≤b) →
    (∀(i:Nat) lv v,args[i]?=some lv→vals[i]?=some v→RepV w w0.heap.size (OwnB xo (preB bl) E) E lv v∧∀id,Ment lv id→preB bl id≠none) →
    BlksOk w w0.heap.size xo E (preB bl) →
    C vals.toArray w fun e w' => ∃ v E', e = .returned v ∧ Below w0.heap.size w0 w' ∧ w.heap.size ≤ w'.heap.size ∧
      (∀b,b<w.heap.size→(∀i,¬OwnAt (preB bl) E i b)→w'.heap[b]?=w.heap[b]?) ∧
      (∀i,900000≤i→look rbl i≠none→E' i=E i∧preB bl i≠none) ∧
      (∀i b,OwnAt (look rbl) E' i b→w.heap.size≤b∨∃j,OwnAt (preB bl) E j b) ∧
      (RepV w' w0.heap.size (OwnB xo (look rbl) E') E' r v∧∀id,Ment r id→look rbl id≠none)∧BlksOk w' w0.heap.size xo E' (look rbl)

def FnM(P:Program)(f:FuncId)(args:List LV)(bl:List BC)(r:LV)(rbl:List (Nat×BC)):Prop:=FnG (Calls P f) args bl r rbl
def ExtC(P:Program)(f:FuncId)(vals:Array Value)(w:World)(R:Ending→World→Prop):Prop:=∃v w',(callFunc f vals).run P w=.ok (.value v) w'∧R (.returned v) w'
def FnX(P:Program)(f:FuncId)(args:List LV)(bl:List BC)(r:LV)(rbl:List (Nat×BC)):Prop:=FnG (ExtC P f) args bl r rbl

mutual
theorem ze1(g : Nat → Nat) : ∀(lv : LV) (id : Nat), Ment (ren g lv) id → ∃k, id = g k ∧ Ment lv k
  |.agg l, id, h => by
    simp only[ren] at h
    cases h with
    |agg _ y _ hy hm=>obtain⟨x,k,h1,h2,h3⟩:=zhn g l y id hy hm;exact⟨k,h2,.agg l x k h1 h3⟩
  |.tup l, id, h => by
    simp only[ren] at h
    cases h with
    |tup _ y _ hy hm=>obtain⟨x,k,h1,h2,h3⟩:=zhn g l y id hy hm;exact⟨k,h2,.tup l x k h1 h3⟩
  |.clo f l, id, h => by
    simp only[ren] at h
    cases h with
    |clo _ _ y _ hy hm=>obtain⟨x,k,h1,h2,h3⟩:=zhn g l y id hy hm;exact⟨k,h2,.clo f l x k h1 h3⟩
  |.own i,id,h=>by simp only[ren] at h;cases h;exact⟨i,rfl,.own i⟩
  |.mp i,id,h=>by simp only[ren] at h;cases h;exact⟨i,rfl,.mp i⟩
  |.vp i off,id,h=>by simp only[ren] at h;cases h;exact⟨i,rfl,.vp i off⟩
  |.ap i sz k off,id,h=>by simp only[ren] at h;cases h;exact⟨i,rfl,.ap i sz k off⟩
  |.whn b v, id, h => by
    simp only[ren] at h
    cases h with
    |whn _ _ _ hb hm=>obtain⟨k,h1,h2⟩:=ze1 g v id hm;exact⟨k,h1,.whn b v k hb h2⟩
  |.int _ _,id,h=>by simp only[ren] at h;cases h
  |.bool _,id,h=>by simp only[ren] at h;cases h
  |.str _,id,h=>by simp only[ren] at h;cases h
  |.ro _ _ _ _,id,h=>by simp only[ren] at h;cases h
  |.ep _ _,id,h=>by simp only[ren] at h;cases h
  |.nilS,id,h=>by simp only[ren] at h;cases h
  |.nilM,id,h=>by simp only[ren] at h;cases h
  |.rm _ _,id,h=>by simp only[ren] at h;cases h
  |.nilP,id,h=>by simp only[ren] at h;cases h
  |.fn _,id,h=>by simp only[ren] at h;cases h
  |.k _ _,id,h=>by simp only[ren] at h;cases h
  |.er _,id,h=>by simp only[ren] at h;cases h
  |.fv,id,h=>by simp only[ren] at h;cases h
  |.any,id,h=>by simp only[ren] at h;cases h
  |.ifc t v, id, h => by
    simp only[ren] at h
    cases h with
    |ifc _ _ _ hm=>obtain⟨k,h1,h2⟩:=ze1 g v id hm;exact⟨k,h1,.ifc t v k h2⟩
theorem zhn(g : Nat → Nat) : ∀(l : List LV) (y : LV) (id : Nat), y ∈ renL g l → Ment y id → ∃x k, x ∈ l ∧ id = g k ∧ Ment x k
  |[],y,id,hy,h=>by simp[renL] at hy
  |v :: r, y, id, hy, h => by
    simp only[renL,oQ] at hy
    rcases hy with rfl | hy
    · obtain ⟨k,h1,h2⟩:=ze1 g v id h;exact ⟨v,k,vbZ,h1,h2⟩
    · obtain ⟨x,k,h1,h2,h3⟩:=zhn g r y id hy h;exact ⟨x,k,by simp [h1],h2,h3⟩
end
theorem zmo{g : Nat → Nat} : ∀{l : List LV} {y : LV}, y ∈ renL g l → ∃x ∈ l, y = ren g x
  |v :: r, y, h => by
    simp only[renL,oQ] at h
    rcases h with rfl | h
    · grind
    · obtain ⟨x,h1,h2⟩:=zmo h;exact ⟨x,by simp [h1],h2⟩
def renB(g : Nat → Nat) : BC → BC
  |.var cs=>.var (renL g cs)
  |.arr sz n row=>.arr sz n row
  |.mp kd m=>.mp kd m
  |.nest wd cl sz n rows=>.nest wd cl sz n rows
  |.bld T e s=>.bld T e s
theorem BlkOk.renamed{w : World}{B : Nat}{X : Nat → Prop}{E : Env}{i : Nat}{c : BC}(h : BlkOk w B X E i c){X' : Nat → Prop}{E' : Env}{g : Nat → Nat}{i' : Nat}(hX : ∀b, X' b → X b)(hE : E' i' = E i)(hS : ∀b, E'.s i' b ↔ E.s i b)(ho : ∀wd cl sz n rows, c = .nest wd cl sz n rows → cl = true)(hm : ∀cells lv id, c = .var cells → lv ∈ cells → Ment lv id → E' (g id) = E id) : BlkOk w B X' E' i' (renB g c) := by
 cases c with
 |var cells =>obtain⟨b,vs,T,h1,h2,h3,h4,h5⟩:=h;refine⟨b,vs,T,vbB,h2,h3,by rw[zby];exact h4,fun j lv v hl hv=>?_⟩;rw[zdc] at hl;simp only[oq] at hl;obtain⟨x,hx,rfl⟩:=hl;exact(h5 j x v hx hv).renamed (ou _) hX fun id hid=>hm cells x id rfl (oW hx) hid
 |mp kd m =>obtain⟨b,es,ck,h1,h2,h3,h4⟩:=h;exact⟨b,es,ck,vbB,h2,h3,h4⟩
 |bld T e s =>obtain⟨b,v,p,h1,h2,h3⟩:=h;exact⟨b,v,p,vbB,h2,fun g=>(hS g).trans (h3 g)⟩
 |arr sz n row =>
  refine⟨by rw[hE];exact h.1,?_⟩;rw[hE];rcases h.2 with h1 | ⟨b,cap,vs,T,h1,h2,h3,h4,h5,h6,h7,h8⟩
  ·grind
  exact .inr ⟨b,cap,vs,T,h1,h2,h3,h4,h5,h6,h7,fun k hk=>⟨(h8 k hk).1,(h8 k hk).2.1,fun j lv v hl hv=>((h8 k hk).2.2 j lv v hl hv).keep (ou _) (fun _ _ _=>rfl) (fun b hb=>.inl (hX b hb)) (ou _)⟩⟩
 |nest wd cl sz n rows =>exact h.move (ho wd cl sz n rows rfl) (ou _) hX hE hS
theorem zbl{α : Type} : ∀{l : List (Nat × α)} {i : Nat} {c : α}, look l i = some c → (i, c) ∈ l
  |[],i,c,h=>by simp[look] at h
  |y :: l, i, c, h => by
    simp only[look] at h
    cases hb:yv y.1 i with
    |true =>
      rw[hb] at h
      have:=om hb
      grind
    |false=>rw[hb] at h;exact List.mem_cons_of_mem _ (zbl h)
theorem zgx{α β : Type}(f : Nat → Nat)(h : Nat × α → β) : ∀{l : List (Nat × α)} {j : Nat} {y : β}, look (l.map fun x => (f x.1, h x)) j = some y → ∃i c, f i = j ∧ look l i = some c ∧ y = h (i, c)
  |[],j,y,hy=>by simp[look] at hy
  |x :: l, j, y, hy => by
    rw[YH,za2] at hy
    simp only at hy
    by_cases e:j=f x.1
    · rw [if_pos e] at hy
      cases hy
      exact⟨x.1,x.2,e.symm,by simp[look],rfl⟩
    · rw [if_neg e] at hy
      obtain⟨i,c,h1,h2,h3⟩:=zgx f h hy
      refine⟨i,c,h1,?_,h3⟩
      have hne:i≠x.1:=fun q=>e (by rw[←h1,q])
      have:=za2 x.1 x.2 l
      simp_all
theorem zlf{α β : Type}(f : Nat → Nat)(h : Nat × α → β){l : List (Nat × α)}{i : Nat}(hi : look l i ≠ none) : look (l.map fun x => (f x.1, h x)) (f i) ≠ none := by
 obtain⟨c, hc⟩ := oN.1 hi;have hm := zbl hc;have : ∀{l : List (Nat × α)}, (i, c) ∈ l → look (l.map fun x => (f x.1, h x)) (f i) ≠ none := by
  intro l;induction l with
  |nil =>intro h;cases h
  |cons x l ih =>rw[YH,za2];grind
 grind
theorem zis{α β γ : Type}(f : Nat → Nat)(h : Nat × α → β)(k : β → γ) : ∀(l : List (Nat × α)) (j : Nat), (look (l.map fun x => (f x.1, h x)) j).map k = look (l.map fun x => (f x.1, k (h x))) j
  |[],j=>by simp[look]
  |x :: l, j => by
    rw[YH,YH,za2,za2]
    simp only
    split
    · rfl
    · exact zis f h k l j
end Go.Lite

namespace Go.Lite
open Go Go.RowKit
open _root_.Nat renaming beq→yv, ble→yy, blt→Yu
open _root_.List renaming replicate→yw, range→yI

def zhy : LV → Option (List LV)
  |.agg l=>bif l.all isOne then some l else none
  |.tup _=>none
  |.whn _ _=>none
  |v=>some [v]
def zeroL(P : Program)(T : TypeId) : Option (List LV) :=
  match P.info? T with
  | some i => match i.zero with
    |some z=>zir z.cells.toList
    |none=>none
  |none=>none
def zcf(l:List LV)(off:Nat)(xs:List LV):List LV:=l.take off++(xs++l.drop (off+xs.length))
def fillL(place : Nat → Option (Nat × Nat)) : List LV → List (Nat × List LV) → Option (List LV)
  |cs,[]=>some cs
  | cs, (i, v) :: r => match place i with
    |some (off,sz)=>bif yv v.length sz&&yy (off+sz) cs.length then fillL place (zcf cs off v) r else none
    |none=>none
def frz(blk : Nat → Option BC) : LV → Option (LV × List Nat)
  | .own id => match blk id with
    |some (.arr sz n row)=>some (.ro true sz n row,[id])
    |_=>none
  |.int k n=>some (.int k n,[])
  |.bool b=>some (.bool b,[])
  |.str s=>some (.str s,[])
  |.ro fr sz n row=>some (.ro fr sz n row,[])
  |.nilS=>some (.nilS,[])
  |.nilM=>some (.nilM,[])
  |.nilP=>some (.nilP,[])
  |.fn f=>some (.fn f,[])
  |_=>none
def frzL(blk : Nat → Option BC) : List LV → Option (List LV × List Nat)
  |[]=>some ([],[])
  | v :: r => match frz blk v, frzL blk r with
    |some (x,i),some (xs,is)=>some (x :: xs,i++is)
    |_,_=>none
def za9(sl : Nat → Option LV) : List (Nat × Operand) → Option (List (Nat × List LV) × List Prop)
  |[]=>some ([],[])
  | (i, o) :: r => match ev sl o, za9 sl r with
    | some (v, p), some (vs, q) => match zhy v with
      |some cs=>some ((i,cs) :: vs,p++q)
      |none=>none
    |_,_=>none
def frzP(blk : Nat → Option BC) : List (Nat × List LV) → Option (List (Nat × List LV) × List Nat)
  |[]=>some ([],[])
  | (i, v) :: r => match frzL blk v, frzP blk r with
    |some (x,is),some (xs,js)=>some ((i,x) :: xs,is++js)
    |_,_=>none
def zi7(P : Program)(fs : List Field) : Option (List (Nat × Nat)) :=
  match fs with
  |[]=>some []
  | f :: r => match szOf P f.type, zi7 P r with
    |some n,some l=>some ((f.offset,n) :: l)
    |_,_=>none
def optN(sl : Nat → Option LV)(d : Nat) : Option Operand → Option (Int × List Prop)
  |none=>some ((d:Int),[])
  | some o => match ev sl o with
    |some (.int _ n,p)=>some (n,p)
    |_=>none

def keyL : KD → LV → Option KV
  |.str,.str s=>some (.s s)
  |.int k,.int k' n=>bif decide (k=k') then some (.i n) else none
  |.pair,.agg [.int .i64 a,.int .i64 b]=>some (.p a b)
  |_,_=>none
def zero1(P : Program)(V : TypeId) : Option Value := match P.info? V with
  |some i=>i.zero
  |none=>none
def mapTy(P : Program)(V : TypeId) : MV → Bool
  | .b _ => match zero1 P V with
    |some (.bool false)=>true
    |_=>false
  | .i _ => match zero1 P V with
    |some (.int .i64 0)=>true
    |_=>false
def lookL(m : MV)(k : KV)(ok : Bool) : LV :=
  match m with
  |.b f=>bif ok then .tup [.bool ((f k).getD false),.bool (f k).isSome] else .bool ((f k).getD false)
  |.i f=>bif ok then .tup [.int .i64 ((f k).getD 0),.bool (f k).isSome] else .int .i64 ((f k).getD 0)
def MV.setL(m : MV)(k : KV)(v : LV) : Option MV :=
  match m,v with
  |.b f,.bool x=>some (.b (mset f k x))
  |.i f,.int .i64 n=>some (.i (mset f k n))
  |_,_=>none
def kdOf(P : Program)(K : TypeId) : KD :=
  match P.underlying K with
  |some (.int k)=>.int k
  |some (.struct _)=>.pair
  |_=>.str
def newMV(P : Program)(V : TypeId) : MV :=
  match zero1 P V with
  |some (.bool _)=>.b fun _=>none
  |_=>.i fun _=>none

def vop2(P : Program)(o : Oper)(sl : Nat → Option LV)(blk : Nat → Option BC) : Option (LV × List Prop) :=
  match o.op with
  | .build T parts => match P.underlying T, zeroL P T, za9 sl parts.toList with
    | some (.struct fs), some z, some (vs, p) => match zi7 P fs.toList with
      |some pl=>(fillL (fun i=>pl[i]?) z vs).map fun l=>(.agg l,p)
      |none=>none
    | some (.array _ e), some z, some (vs, p) => match szOf P e with
      |some n=>(fillL (fun i=>some (i * n,n)) z vs).map fun l=>(.agg l,p)
      |none=>none
    |_,_,_=>none
  | .slice T x lo hi none => match P.underlying T, ev sl x with
    | some .string, some (.str s, p) => match optN sl 0 lo, optN sl s.length hi with
      |some (l,q),some (h,r)=>some (.str ((s.drop l.toNat).take (h.toNat - l.toNat)),p++q++r++[0≤l∧l≤h∧h≤(s.length:Int)])
      |_,_=>none
    | some (.slice e), some (.ro fr sz n row, p) => match optN sl 0 lo, optN sl n hi, szOf P e with
      |some (l,q),some (h,r),some s=>bif yv s sz then some (.ro fr sz (h.toNat - l.toNat) (fun k=>row (l.toNat+k)),p++q++r++[0≤l∧l≤h∧h≤(n:Int)]) else none
      |_,_,_=>none
    |_,_=>none
  | .lookup T x i ok => match P.underlying T, ev sl x, ev sl i with
    | some (.map K V), some (.mp id, p), some (kv, q) => match blk id with
      | some (.mp kd m) => match keyL kd kv with
        |some k=>bif kdOk P K kd&&mapTy P V m then some (lookL m k ok,p++q) else none
        |none=>none
      |_=>none
    | some (.map K V), some (.rm kd m, p), some (kv, q) => match keyL kd kv with
      |some k=>bif kdOk P K kd&&mapTy P V m then some (lookL m k ok,p++q) else none
      |none=>none
    |_,_,_=>none
  | .field T x f => match P.underlying T, ev sl x with
    | some (.struct fs), some (.agg l, p) => match fs[f]? with
      | some fl => match aggOf P fl.type, l[fl.offset]? with
        |some false,some v=>some (v,p)
        |_,_=>none
      |none=>none
    |_,_=>none
  |.makeFunc (.func g) first caps=>bif first.isEmpty then(evs sl caps.toList).map fun x=>(.clo g x.1,x.2) else none
  | .makeInterface T x => match P.underlying T with
    |some (.slice _)=>(ev sl x).map fun v=>(.ifc T v.1,v.2)
    |_=>none
  | .binOp .eql T x y _ => match P.underlying T, ev sl x, ev sl y with
    | some (.slice _), some (.own id, p), some (.nilS, q) => match blk id with
      |some (.arr _ n _)=>some (.bool false,p++q++[0<n])
      |some (.nest _ _ _ n _)=>some (.bool false,p++q++[0<n])
      |_=>none
    |some (.slice _),some (.nilS,p),some (.nilS,q)=>some (.bool true,p++q)
    |_,_,_=>none
  |_=>none

structure MD where
  dst:Option LV
  K:Nat→Bool
  ub:Nat→Option BC
  new:List Nat
  vcs:List Prop

def killL(l:List Nat):Nat→Bool:=fun j=>l.any (yv j)
def arrOf(blk : Nat → Option BC) : LV → Option (Nat × Nat × (Nat → List LV) × List Nat)
  | .own id => match blk id with
    |some (.arr sz n row)=>some (sz,n,row,[id])
    |_=>none
  |.ro _ sz n row=>some (sz,n,row,[])
  |_=>none
def zOk(P : Program)(e : TypeId)(i : TypeInfo) : Bool :=
  match zeroL P e with
  |some z=>yv z.length i.size
  |none=>false

def byteOf(n:Int):UInt8:=UInt8.ofNat n.toNat
def idxOf(ids : List Nat)(i : Nat) : Nat := match ids with
  |[]=>0
  |x :: r=>bif yv x i then 0 else idxOf r i+1
def inM(ids:List Nat)(i:Nat):Nat:=900000+idxOf ids i
def outM(ids:List Nat)(d j:Nat):Nat:=bif yy 900000 j then ids.getD (j - 900000) 0 else resId d j
def varIn(u : Nat → Bool) : BC → Bool
  |.var cs=>zdh u cs
  |.nest _ cl _ _ _=>cl
  |_=>true
def preL(blk : Nat → Option BC)(ids : List Nat) : List Nat → Option (List BC)
  |[]=>some []
  | i :: r => match blk i, preL blk ids r with
    |some c,some l=>bif varIn (killL ids) c then some (renB (inM ids) c :: l) else none
    |_,_=>none
def zfg : List Nat → Bool
  |[]=>true
  |i :: r=>!killL r i&&zfg r
def newM(d:Nat)(rbl:List (Nat×BC)):List Nat:=(rbl.filter fun x=>Yu x.1 900000).map fun x=>resId d x.1
def callM(P : Program)(blk : Nat → Option BC)(g : Nat)(xs : List LV)(p : List Prop)(dst : Bool)(d : Nat)(ids : List Nat)(rbl : List (Nat × BC))(r : LV) : Option MD :=
  match preL blk ids ids,P.funcs[g]? with
  | some bl, some fn => bif !(fn.name == "runtime.NumGoroutine") && (zfg ids && (zdh (killL ids) (dfrL xs) && rbl.all fun x => Yu x.1 (900000 + ids.length))) then
      some ⟨bif dst then some (ren (outM ids d) r) else none,killL ids,look (rbl.map fun x=>(outM ids d x.1,renB (outM ids d) x.2)),newM d rbl,p++[bif fn.body.isSome then FnM P g (renL (inM ids) (dfrL xs)) bl r rbl else FnX P g (renL (inM ids) (dfrL xs)) bl r rbl]⟩ else none
  |_,_=>none

def arrTy(P : Program)(T : Nat) : Option (Nat × Nat) := match P.underlying T with
  | some (.struct fs) => match fs.toList with
    | [f] => match P.underlying f.type with
      |some (.array n e)=>some (n,e)
      |_=>none
    |_=>none
  |_=>none
def zup : LV → Bool
  |.int _ _=>true
  |.bool _=>true
  |.nilS=>true
  |_=>false
def mop0(P : Program)(o : Oper)(sl : Nat → Option LV)(blk : Nat → Option BC)(h : Hint) : Option MD :=
  match o.op,o.dst with
  | .box T x, some d => match ev sl x with
    | some (v, p) => match arrTy P T with
      | some (n, e) => match zeroL P e, szOf P e, zhy v with
        | some z, some sz, some cs => bif z.all zup && (yv z.length sz && (yy 1 n && yy n 16777216)) then
            some ⟨some (.ap d sz 0 0),noK,oneB d (.arr sz n (fun _=>z)),[d],p++[cs=(yw n z).flatten]⟩ else none
        |_,_,_=>none
      |none=>(zhy v).map fun cs=>⟨some (.vp d 0),noK,oneB d (.var cs),[d],p⟩
    |none=>none
  | .alloc T, some d => match h with
    | .row row' => match P.underlying T, zeroL P T with
      | some (.array n e), some cs => match szOf P e with
        | some sz => bif yv cs.length (n * sz) && yy 1 n && yy n 16777216 then
            some ⟨some (.ap d sz 0 0),noK,oneB d (.arr sz n row'),[d],(yI n).map fun i=>row' i=(cs.drop (i * sz)).take sz⟩ else none
        |none=>none
      |_,_=>none
    |_=>(zeroL P T).map fun cs=>⟨some (.vp d 0),noK,oneB d (.var cs),[d],[]⟩
  | .store T x y, none => match ev sl x, ev sl y, szOf P T with
    | some (.vp id off, p), some (v, q), some n => match blk id, zhy v with
      |some (.var cs),some vs=>bif yv vs.length n&&yy (off+n) cs.length then some ⟨none,noK,oneB id (.var (zcf cs off vs)),[],p++q⟩ else none
      |_,_=>none
    | some (.ap id sz i off, p), some (v, q), some n => match blk id, zhy v, h with
      | some (.arr sz' m row), some vs, .row row' => match frzL blk vs with
        | some (xs, ks) => bif yv sz sz' && yv xs.length n && yy (off + n) sz && !(killL ks id) then
            some ⟨none,killL ks,oneB id (.arr sz m row'),[],p++q++[∀k,k<m→row' k=bif yv k i then zcf (row k) off xs else row k]⟩ else none
        |none=>none
      |_,_,_=>none
    |_,_,_=>none
  | .makeSlice T l c, some d => match P.underlying T, ev sl l, ev sl c with
    | some (.slice e), some (.int _ n, p), some (.int _ m, q) => match zeroL P e, P.info? e with
      |some z,some i=>bif yv z.length i.size then some ⟨some (.own d),noK,oneB d (.arr i.size n.toNat (fun _=>z)),[d],p++q++[0≤n∧n≤m∧(i.bytes:Int) * m≤281474976710656∧m≤9223372036854775807]⟩ else none
      |_,_=>none
    |_,_,_=>none
  | .buildSlice T len parts, some d => match P.underlying T, za9 sl parts.toList with
    | some (.slice e), some (vs, p) => match zeroL P e, szOf P e, frzP blk vs with
      | some z, some n, some (xs, ks) => match fillL (fun i => some (i * n, n)) ((yw len z).flatten) xs with
        | some flat => bif yv z.length n && yy (len * n) 16777216 && yy 1 n then
            match h with
            |.row row'=>some ⟨some (.own d),killL ks,oneB d (.arr n len row'),[d],p++(yI len).map fun i=>row' i=(flat.drop (i * n)).take n⟩
            |_=>bif yy len 1 then some ⟨some (.own d),killL ks,oneB d (.arr n len (fun _=>flat)),[d],p⟩ else none
          else none
        |none=>none
      |_,_,_=>none
    |_,_=>none
  | .call { callee := .builtin .append, args, argTypes }, some d => match args.toList, argTypes.toList, h with
    | [x, y], [T, T'], .row row' => match P.underlying T, ev sl x, ev sl y with
      | some (.slice e), some (x', p), some (y', q) => match P.info? e, arrOf blk y' with
        | some i, some (sz, m, row2, _) => match x' with
          | .nilS => bif zOk P e i && yv T T' && yv sz i.size && yy 1 i.bytes && yy 1 sz then
              some ⟨some (.own d),noK,oneB d (.arr sz m row'),[d],p++q++[∀k,k<m→row' k=row2 k,m * i.bytes≤140737488355328]⟩ else none
          | .own id => match blk id with
            | some (.arr sz' n row1) => bif zOk P e i && yv T T' && yv sz i.size && yv sz' sz && yy 1 i.bytes && yy 1 sz then
                some ⟨some (.own d),killL [id],oneB d (.arr sz (n+m) row'),[d],p++q++[∀k,k<n+m→row' k=bif Yu k n then row1 k else row2 (k - n),(n+m) * i.bytes≤140737488355328]⟩ else none
            |_=>none
          |_=>none
        |_,_=>none
      |_,_,_=>none
    |_,_,_=>none
  | .call { callee := .value f, args, .. }, some d => match ev sl f, evs sl args.toList, h with
    | some (.fn g, p), some (xs, q), .res r arrs => match zgn blk xs, P.funcs[g]? with
      | some ys, some fn => bif fn.body.isSome && !(fn.name == "runtime.NumGoroutine") then
          some ⟨some (ren (resId d) r),noK,resB d arrs,(yI arrs.length).map (resId d),p++q++[Fn P g ys r arrs]⟩ else none
      |_,_=>none
    |some (.fn g,p),some (xs,q),.resM d' ids rbl r=>callM P blk g (xs++[]) (p++q) true d' ids rbl r
    |some (.clo g cs,p),some (xs,q),.resM d' ids rbl r=>callM P blk g (xs++cs) (p++q) true d' ids rbl r
    | some (.clo g cs, p), some (xs, q), .res r arrs => match zgn blk (xs ++ cs), P.funcs[g]? with
      | some ys, some fn => bif fn.body.isSome && !(fn.name == "runtime.NumGoroutine") then
          some ⟨some (ren (resId d) r),noK,resB d arrs,(yI arrs.length).map (resId d),p++q++[Fn P g ys r arrs]⟩ else none
      |_,_=>none
    |_,_,_=>none
  | .call { callee := .value f, args, .. }, none => match ev sl f, evs sl args.toList, h with
    |some (.fn g,p),some (xs,q),.resM d' ids rbl r=>callM P blk g (xs++[]) (p++q) false d' ids rbl r
    |some (.clo g cs,p),some (xs,q),.resM d' ids rbl r=>callM P blk g (xs++cs) (p++q) false d' ids rbl r
    |_,_,_=>none
  | .convert S T x, some d => match P.underlying S, P.underlying T, ev sl x, h with
    | some (.slice e), some .string, some (v, p), .ints l => match P.underlying e, arrOf blk v with
      |some (.int .u8),some (sz,n,row,_)=>bif yv sz 1 then some ⟨some (.str (l.map byteOf)),noK,fun _=>none,[],p++[n=l.length∧∀k,k<n→row k=[.int .u8 (l.getD k default)]]⟩ else none
      |_,_=>none
    |_,_,_,_=>none
  | .makeMap T none, some d => match P.underlying T with
    |some (.map K V)=>bif kdOk P K (kdOf P K)&&mapTy P V (newMV P V) then some ⟨some (.mp d),noK,oneB d (.mp (kdOf P K) (newMV P V)),[d],[]⟩ else none
    |_=>none
  | .mapUpdate T x i y, none => match P.underlying T, ev sl x, ev sl i, ev sl y with
    | some (.map K V), some (.mp id, p), some (kv, q), some (v, r) => match blk id with
      | some (.mp kd m) => match keyL kd kv with
        | some k => match m.setL k v with
          |some m'=>bif kdOk P K kd then some ⟨none,noK,oneB id (.mp kd m'),[],p++q++r⟩ else none
          |none=>none
        |none=>none
      |_=>none
    |_,_,_,_=>none
  | .insert T x i y, none => match P.underlying T, ev sl x, ev sl i, ev sl y with
    | some (.map K V), some (.mp id, p), some (kv, q), some (v, r) => match blk id with
      | some (.mp kd m) => match keyL kd kv with
        | some k => match m.setL k v with
          |some m'=>bif kdOk P K kd then some ⟨none,noK,oneB id (.mp kd m'),[],p++q++r⟩ else none
          |none=>none
        |none=>none
      |_=>none
    |_,_,_,_=>none
  | .slice T x lo hi none, some d => match P.underlying T, ev sl x with
    | some (.slice e), some (.own id, p) => match blk id, optN sl 0 lo, szOf P e with
      | some (.arr sz n row), some (l, q), some s => match optN sl n hi with
        | some (h', r) => bif yv s sz then
            some ⟨some (.own d),killL [id],oneB d (.arr sz (h'.toNat - l.toNat) (fun k=>row (l.toNat+k))),[d],p++q++r++[0≤l∧l≤h'∧h'≤(n:Int)]⟩ else none
        |none=>none
      |_,_,_=>none
    |_,_=>none
  |_,_=>none
def zbo(n m:Nat)(row row':Nat→List LV):Prop:=n=m∧∀k,k<n→row k=row' k
def z0v(x y:LV):Prop:=x=y∨(x=.nilS∧∃fr sz row,y=.ro fr sz 0 row)
def zc9(l m:List LV):Prop:=l.length=m.length∧∀(j:Nat) x y,l[j]?=some x→m[j]?=some y→z0v x y
def zlm(n m:Nat)(row row':Nat→List LV):Prop:=n=m∧∀k,k<n→zc9 (row k) (row' k)
def rowsR(wk:Bool)(n m:Nat)(row row':Nat→List LV):Prop:=bif wk then zlm n m row row' else zbo n m row row'
theorem zq3{wk : Bool}{n m : Nat}{row row' : Nat → List LV}(h : rowsR wk n m row row') : zlm n m row row' := by
 cases wk with
 |true =>exact h
 |false =>exact⟨h.1,fun k hk=>by rw[h.2 k hk];exact⟨rfl,fun j x y h1 h2=>by rw[h1] at h2;cases h2;exact .inl rfl⟩⟩
def reB(wk : Bool)(id n : Nat)(row : Nat → List LV)(D : MD) : Option MD :=
  match D.ub id with
  |some (.arr sz n0 row0)=>some ⟨D.dst,D.K,fun j=>bif yv j id then some (.arr sz n row) else D.ub j,D.new,[All D.vcs∧rowsR wk n0 n row0 row]⟩
  |_=>none
def zej : LV → Bool
  |.int _ _=>true
  |.bool _=>true
  |.str _=>true
  |_=>false
def nrOne(blk : Nat → Option BC)(v : LV) : Option (Option Nat × NR × List Nat) :=
  match v with
  | .own id => match blk id with
    |some (.arr sz n row)=>some (some sz,.row n row,[id])
    |_=>none
  |v=>bif zej v then some (none,.cell v,[]) else none
def nrsGo(blk : Nat → Option BC)(sz : Nat) : List LV → Option (List NR × List Nat)
  |[]=>some ([],[])
  | v :: r => match nrOne blk v, nrsGo blk sz r with
    |some (s,x,is),some (xs,js)=>bif(match s with|some s=>yv s sz|none=>true) then some (x :: xs,is++js) else none
    |_,_=>none
def szOfs(blk : Nat → Option BC) : List LV → Nat
  |[]=>0
  | v :: r => match nrOne blk v with
    |some (some s,_)=>s
    |_=>szOfs blk r
def nrsOf(blk:Nat→Option BC)(cs:List LV):Option (Nat×List NR×List Nat):=(nrsGo blk (szOfs blk cs) cs).map fun x=>(szOfs blk cs,x)
def mopN(P : Program)(o : Oper)(sl : Nat → Option LV)(blk : Nat → Option BC)(h : Hint) : Option MD :=
  match o.op,o.dst with
  | .load T x, some d => match h with
    | .take g m row rows' => match ev sl x, aggOf P T with
      | some (.ap id sz1 i off, p), some false => match blk id with
        | some (.nest 1 cl sz n rows) => bif yv sz1 1 && yv off 0 then
            some ⟨some (.own d),noK,fun j=>bif yv j d then some (.arr sz m row) else oneB id (.nest 1 (g&&cl) sz n rows') j,[d],p++[rows i=.row m row∧rows' i=(bif g then .gone else .out d)∧∀k,k<n→k≠i→rows' k=rows k]⟩ else none
        | some (.nest wd cl sz n rows) => bif yv sz1 wd && Yu off wd then
            some ⟨some (.own d),noK,fun j=>bif yv j d then some (.arr sz m row) else oneB id (.nest wd (g&&cl) sz n rows') j,[d],p++[rows (i * wd+off)=.row m row∧rows' (i * wd+off)=(bif g then .gone else .out d)∧∀k,k<cN wd n→k≠i * wd+off→rows' k=rows k]⟩ else none
        |_=>none
      |_,_=>none
    | .elt pre m row rows' => match ev sl x, aggOf P T, szOf P T with
      | some (.ap id sz1 i off, p), some true, some one => match blk id with
        | some (.nest wd cl sz n rows) => bif yv sz1 wd && (yv off 0 && (yv one wd && (yv (pre.length + 1) wd && pre.all zej))) then
            some ⟨some (.agg (pre++[.own d])),noK,fun j=>bif yv j d then some (.arr sz m row) else oneB id (.nest wd (true&&cl) sz n rows') j,[d],p++[(rows (i * wd+pre.length)=.row m row∧rows' (i * wd+pre.length)=.gone∧∀k,k<cN wd n→k≠i * wd+pre.length→rows' k=rows k)∧∀j,j<pre.length→rows (i * wd+j)=.cell (pre.getD j .any)]⟩ else none
        |_=>none
      |_,_,_=>none
    |_=>none
  | .buildSlice T len parts, some d => match h with
    | .nst _ n' rows' => match P.underlying T, za9 sl parts.toList with
      | some (.slice e), some ([(i0, [.own f])], p) => match zeroL P e, szOf P e, blk f with
        | some [.nilS], some one, some (.arr sz m row) => bif yv i0 0 && (yv len 1 && yv one 1) then
            some ⟨some (.own d),killL [f],oneB d (.nest 1 true sz n' rows'),[d],p++[1=n'∧rows' 0=.row m row]⟩ else none
        |_,_,_=>none
      | some (.slice e), some ([(i0, cs)], p) => match zeroL P e, szOf P e, nrsOf blk cs with
        | some z, some wd, some (sz, rs, ids) => bif yv i0 0 && (yv len 1 && (yv z.length wd && (yv cs.length wd && (yy wd 16777216 && zfg ids)))) then
            some ⟨some (.own d),killL ids,oneB d (.nest wd true sz n' rows'),[d],p++[1=n'∧∀j,j<wd→rows' j=rs.getD j .gone]⟩ else none
        |_,_,_=>none
      |_,_=>none
    | .nstM sz n' rows' => match P.underlying T, za9 sl parts.toList with
      | some (.slice e), some ([], p) => match zeroL P e, szOf P e with
        | some z, some one => bif yv len 0 && yv z.length one then
            some ⟨some (.own d),noK,oneB d (.nest one true sz n' rows'),[d],p++[n'=0]⟩ else none
        |_,_=>none
      |_,_=>none
    |_=>none
  | .call { callee := .builtin .append, args, argTypes }, some d => match h with
    | .nst _ n' rows' => match args.toList, argTypes.toList with
      | [x, y], [T, T'] => match P.underlying T, ev sl x, ev sl y with
        | some (.slice e), some (x', p), some (.own f, q) => match P.info? e, blk f with
          | some i, some (.nest 1 cl2 sz one rows2) => match x' with
            | .nilS => bif zOk P e i && (yv T T' && (yv i.size 1 && (yy 1 i.bytes && (yv one 1 && cl2)))) then
                some ⟨some (.own d),killL [f],oneB d (.nest 1 true sz n' rows'),[d],p++q++[(1=n'∧rows' 0=rows2 0)∧i.bytes≤140737488355328]⟩ else none
            | .own id => match blk id with
              | some (.nest 1 cl1 sz1 n rows1) => bif zOk P e i && (yv T T' && (yv i.size 1 && (yy 1 i.bytes && (yv one 1 && (cl2 && (cl1 && (yv sz1 sz && !Nat.beq id f))))))) then
                  some ⟨some (.own d),killL [id,f],oneB d (.nest 1 true sz n' rows'),[d],p++q++[(n+1=n'∧(∀k,k<n→rows' k=rows1 k)∧rows' n=rows2 0)∧(n+1) * i.bytes≤140737488355328]⟩ else none
              |_=>none
            |_=>none
          | some i, some (.nest wd cl2 sz one rows2) => match x' with
            | .nilS => bif zOk P e i && (yv T T' && (yv i.size wd && (yy 1 wd && (yy 1 i.bytes && (yv one 1 && cl2))))) then
                some ⟨some (.own d),killL [f],oneB d (.nest wd true sz n' rows'),[d],p++q++[(1=n'∧∀j,j<wd→rows' j=rows2 j)∧i.bytes≤140737488355328]⟩ else none
            | .own id => match blk id with
              | some (.nest wd1 cl1 sz1 n rows1) => bif zOk P e i && (yv T T' && (yv i.size wd && (yy 1 wd && (yy 1 i.bytes && (yv one 1 && (cl2 && (cl1 && (yv sz1 sz && (yv wd1 wd && !Nat.beq id f))))))))) then
                  some ⟨some (.own d),killL [id,f],oneB d (.nest wd true sz n' rows'),[d],p++q++[(n+1=n'∧(∀k,k<cN wd n→rows' k=rows1 k)∧∀j,j<wd→rows' (n * wd+j)=rows2 j)∧(n+1) * i.bytes≤140737488355328]⟩ else none
              |_=>none
            |_=>none
          |_,_=>none
        |_,_,_=>none
      |_,_=>none
    |_=>none
  |_,_=>none
def mop(P : Program)(o : Oper)(sl : Nat → Option LV)(blk : Nat → Option BC)(h : Hint) : Option MD :=
  match h with
  | .rowN id n row => match mop0 P o sl blk (.row row) with
    |some D=>reB false id n row D
    |none=>none
  | .rowW id n row => match mop0 P o sl blk .no with
    |some D=>reB true id n row D
    |none=>none
  |.nst _ _ _=>mopN P o sl blk h
  |.nstM _ _ _=>mopN P o sl blk h
  |.take _ _ _ _=>mopN P o sl blk h
  |.elt _ _ _ _=>mopN P o sl blk h
  |h=>mop0 P o sl blk h
theorem zi6{wk:Bool}{id n:Nat}{row:Nat→List LV}{D D':MD}(h:reB wk id n row D=some D'):∃sz n0 row0,D.ub id=some (.arr sz n0 row0)∧D'=⟨D.dst,D.K,fun j=>bif yv j id then some (.arr sz n row) else D.ub j,D.new,[All D.vcs∧rowsR wk n0 n row0 row]⟩:=by unfold reB at h;grind
theorem z0d{id n sz n0 : Nat}{row row0 : Nat → List LV}{D : MD}(hu : D.ub id = some (.arr sz n0 row0)){i : Nat}(hi : (bif yv i id then some (BC.arr sz n row) else D.ub i) ≠ none) : D.ub i ≠ none := by
 cases hb:yv i id with
 |true =>rw[om hb,hu];simp
 |false =>rw[hb] at hi;exact hi
theorem zfk{P : Program}{o : Oper}{sl : Nat → Option LV}{blk : Nat → Option BC}{h : Hint}{D : MD}(hm : mop P o sl blk h = some D) : mop0 P o sl blk h = some D ∨ (∃wk id n row D0 hi, (h = .rowN id n row ∧ hi = .row row ∨ h = .rowW id n row ∧ hi = .no) ∧ mop0 P o sl blk hi = some D0 ∧ reB wk id n row D0 = some D) ∨ mopN P o sl blk h = some D := by
 unfold mop at hm;split at hm
 ·grind
 ·grind
 ·grind
 ·grind
 ·grind
 ·grind
 grind
end Go.Lite
