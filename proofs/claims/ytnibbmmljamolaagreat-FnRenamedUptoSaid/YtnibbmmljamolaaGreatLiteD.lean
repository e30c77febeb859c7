/- Operations that make or write memory, computed on symbolic values. Conditions: none; over any program. -/
import Derived.Test.YtnibbmmljamolaaGreatLiteC
set_option linter.unusedVariables false
namespace Go.Lite
open Go Go.RowKit

def zmw : LV → Option (List LV)
  |.agg l=>bif l.all isOne then some l else none
  |.tup _=>none
  |.whn _ _=>none
  |v=>some [v]
def zeroL(P : Program)(T : TypeId) : Option (List LV) :=
  match P.info? T with
  | some i => match i.zero with
    |some z=>zmp z.cells.toList
    |none=>none
  |none=>none
def zd5(l:List LV)(off:Nat)(xs:List LV):List LV:=l.take off++(xs++l.drop (off+xs.length))
def fillL(place : Nat → Option (Nat × Nat)) : List LV → List (Nat × List LV) → Option (List LV)
  |cs,[]=>some cs
  | cs, (i, v) :: r => match place i with
    |some (off,sz)=>bif Nat.beq v.length sz&&Nat.ble (off+sz) cs.length then fillL place (zd5 cs off v) r else none
    |none=>none
def frz(blk : Nat → Option BC) : LV → Option (LV × List Nat)
  | .own id => match blk id with
    |some (.arr sz n row)=>some (.ro true sz n row,[id])
    |_=>none
  |.int k n=>some (.int k n,[])
  |.bool b=>some (.bool b,[])
  |.str s=>some (.str s,[])
  |.ro fr sz n row=>some (.ro fr sz n row,[])
  |.nilS=>some (.nilS,[])
  |.nilM=>some (.nilM,[])
  |.nilP=>some (.nilP,[])
  |.fn f=>some (.fn f,[])
  |_=>none
def frzL(blk : Nat → Option BC) : List LV → Option (List LV × List Nat)
  |[]=>some ([],[])
  | v :: r => match frz blk v, frzL blk r with
    |some (x,i),some (xs,is)=>some (x :: xs,i++is)
    |_,_=>none
def zcg(sl : Nat → Option LV) : List (Nat × Operand) → Option (List (Nat × List LV) × List Prop)
  |[]=>some ([],[])
  | (i, o) :: r => match ev sl o, zcg sl r with
    | some (v, p), some (vs, q) => match zmw v with
      |some cs=>some ((i,cs) :: vs,p++q)
      |none=>none
    |_,_=>none
def frzP(blk : Nat → Option BC) : List (Nat × List LV) → Option (List (Nat × List LV) × List Nat)
  |[]=>some ([],[])
  | (i, v) :: r => match frzL blk v, frzP blk r with
    |some (x,is),some (xs,js)=>some ((i,x) :: xs,is++js)
    |_,_=>none
def zng(P : Program)(fs : List Field) : Option (List (Nat × Nat)) :=
  match fs with
  |[]=>some []
  | f :: r => match szOf P f.type, zng P r with
    |some n,some l=>some ((f.offset,n) :: l)
    |_,_=>none
def optN(sl : Nat → Option LV)(d : Nat) : Option Operand → Option (Int × List Prop)
  |none=>some ((d:Int),[])
  | some o => match ev sl o with
    |some (.int _ n,p)=>some (n,p)
    |_=>none

def keyL : KD → LV → Option KV
  |.str,.str s=>some (.s s)
  |.int k,.int k' n=>bif decide (k=k') then some (.i n) else none
  |.pair,.agg [.int .i64 a,.int .i64 b]=>some (.p a b)
  |_,_=>none
def zero1(P : Program)(V : TypeId) : Option Value := match P.info? V with
  |some i=>i.zero
  |none=>none
def mapTy(P : Program)(V : TypeId) : MV → Bool
  | .b _ => match zero1 P V with
    |some (.bool false)=>true
    |_=>false
  | .i _ => match zero1 P V with
    |some (.int .i64 0)=>true
    |_=>false
def lookL(m : MV)(k : KV)(ok : Bool) : LV :=
  match m with
  |.b f=>bif ok then .tup [.bool ((f k).getD false),.bool (f k).isSome] else .bool ((f k).getD false)
  |.i f=>bif ok then .tup [.int .i64 ((f k).getD 0),.bool (f k).isSome] else .int .i64 ((f k).getD 0)
def MV.setL(m : MV)(k : KV)(v : LV) : Option MV :=
  match m,v with
  |.b f,.bool x=>some (.b (mset f k x))
  |.i f,.int .i64 n=>some (.i (mset f k n))
  |_,_=>none
def kdOf(P : Program)(K : TypeId) : KD :=
  match P.underlying K with
  |some (.int k)=>.int k
  |some (.struct _)=>.pair
  |_=>.str
def newMV(P : Program)(V : TypeId) : MV :=
  match zero1 P V with
  |some (.bool _)=>.b fun _=>none
  |_=>.i fun _=>none

def vop2(P : Program)(o : Oper)(sl : Nat → Option LV)(blk : Nat → Option BC) : Option (LV × List Prop) :=
  match o.op with
  | .build T parts => match P.underlying T, zeroL P T, zcg sl parts.toList with
    | some (.struct fs), some z, some (vs, p) => match zng P fs.toList with
      |some pl=>(fillL (fun i=>pl[i]?) z vs).map fun l=>(.agg l,p)
      |none=>none
    | some (.array _ e), some z, some (vs, p) => match szOf P e with
      |some n=>(fillL (fun i=>some (i * n,n)) z vs).map fun l=>(.agg l,p)
      |none=>none
    |_,_,_=>none
  | .slice T x lo hi none => match P.underlying T, ev sl x with
    | some .string, some (.str s, p) => match optN sl 0 lo, optN sl s.length hi with
      |some (l,q),some (h,r)=>some (.str ((s.drop l.toNat).take (h.toNat - l.toNat)),p++q++r++[0≤l∧l≤h∧h≤(s.length:Int)])
      |_,_=>none
    | some (.slice e), some (.ro fr sz n row, p) => match optN sl 0 lo, optN sl n hi, szOf P e with
      |some (l,q),some (h,r),some s=>bif Nat.beq s sz then some (.ro fr sz (h.toNat - l.toNat) (fun k=>row (l.toNat+k)),p++q++r++[0≤l∧l≤h∧h≤(n:Int)]) else none
      |_,_,_=>none
    |_,_=>none
  | .lookup T x i ok => match P.underlying T, ev sl x, ev sl i with
    | some (.map K V), some (.mp id, p), some (kv, q) => match blk id with
      | some (.mp kd m) => match keyL kd kv with
        |some k=>bif kdOk P K kd&&mapTy P V m then some (lookL m k ok,p++q) else none
        |none=>none
      |_=>none
    | some (.map K V), some (.rm kd m, p), some (kv, q) => match keyL kd kv with
      |some k=>bif kdOk P K kd&&mapTy P V m then some (lookL m k ok,p++q) else none
      |none=>none
    |_,_,_=>none
  | .field T x f => match P.underlying T, ev sl x with
    | some (.struct fs), some (.agg l, p) => match fs[f]? with
      | some fl => match aggOf P fl.type, l[fl.offset]? with
        |some false,some v=>some (v,p)
        |_,_=>none
      |none=>none
    |_,_=>none
  |.makeFunc (.func g) first caps=>bif first.isEmpty then(evs sl caps.toList).map fun x=>(.clo g x.1,x.2) else none
  | .makeInterface T x => match P.underlying T with
    |some (.slice _)=>(ev sl x).map fun v=>(.ifc T v.1,v.2)
    |_=>none
  | .binOp .eql T x y _ => match P.underlying T, ev sl x, ev sl y with
    | some (.slice _), some (.own id, p), some (.nilS, q) => match blk id with
      |some (.arr _ n _)=>some (.bool false,p++q++[0<n])
      |some (.nest _ _ _ n _)=>some (.bool false,p++q++[0<n])
      |_=>none
    |_,_,_=>none
  |_=>none

structure MD where
  dst:Option LV
  K:Nat→Bool
  ub:Nat→Option BC
  new:List Nat
  vcs:List Prop

def killL(l:List Nat):Nat→Bool:=fun j=>l.any (Nat.beq j)
def arrOf(blk : Nat → Option BC) : LV → Option (Nat × Nat × (Nat → List LV) × List Nat)
  | .own id => match blk id with
    |some (.arr sz n row)=>some (sz,n,row,[id])
    |_=>none
  |.ro _ sz n row=>some (sz,n,row,[])
  |_=>none
def zOk(P : Program)(e : TypeId)(i : TypeInfo) : Bool :=
  match zeroL P e with
  |some z=>Nat.beq z.length i.size
  |none=>false

def byteOf(n:Int):UInt8:=UInt8.ofNat n.toNat
def idxOf(ids : List Nat)(i : Nat) : Nat := match ids with
  |[]=>0
  |x :: r=>bif Nat.beq x i then 0 else idxOf r i+1
def inM(ids:List Nat)(i:Nat):Nat:=900000+idxOf ids i
def outM(ids:List Nat)(d j:Nat):Nat:=bif Nat.ble 900000 j then ids.getD (j - 900000) 0 else resId d j
def varIn(u : Nat → Bool) : BC → Bool
  |.var cs=>zf8 u cs
  |.nest _ cl _ _ _=>cl
  |_=>true
def preL(blk : Nat → Option BC)(ids : List Nat) : List Nat → Option (List BC)
  |[]=>some []
  | i :: r => match blk i, preL blk ids r with
    |some c,some l=>bif varIn (killL ids) c then some (renB (inM ids) c :: l) else none
    |_,_=>none
def zis : List Nat → Bool
  |[]=>true
  |i :: r=>!killL r i&&zis r
def newM(d:Nat)(rbl:List (Nat×BC)):List Nat:=(rbl.filter fun x=>Nat.blt x.1 900000).map fun x=>resId d x.1
def callM(P : Program)(blk : Nat → Option BC)(g : Nat)(xs : List LV)(p : List Prop)(dst : Bool)(d : Nat)(ids : List Nat)(rbl : List (Nat × BC))(r : LV) : Option MD :=
  match preL blk ids ids,P.funcs[g]? with
  | some bl, some fn => bif !(fn.name == "runtime.NumGoroutine") && (zis ids && (zf8 (killL ids) (dfrL xs) && rbl.all fun x => Nat.blt x.1 (900000 + ids.length))) then
      some ⟨bif dst then some (ren (outM ids d) r) else none,killL ids,look (rbl.map fun x=>(outM ids d x.1,renB (outM ids d) x.2)),newM d rbl,p++[bif fn.body.isSome then FnM P g (renL (inM ids) (dfrL xs)) bl r rbl else FnX P g (renL (inM ids) (dfrL xs)) bl r rbl]⟩ else none
  |_,_=>none

def mop0(P : Program)(o : Oper)(sl : Nat → Option LV)(blk : Nat → Option BC)(h : Hint) : Option MD :=
  match o.op,o.dst with
  | .box _ x, some d => match ev sl x with
    |some (v,p)=>(zmw v).map fun cs=>⟨some (.vp d 0),noK,oneB d (.var cs),[d],p⟩
    |none=>none
  | .alloc T, some d => match h with
    | .row row' => match P.underlying T, zeroL P T with
      | some (.array n e), some cs => match szOf P e with
        | some sz => bif Nat.beq cs.length (n * sz) && Nat.ble 1 n && Nat.ble n 16777216 then
            some ⟨some (.ap d sz 0 0),noK,oneB d (.arr sz n row'),[d],(List.range n).map fun i=>row' i=(cs.drop (i * sz)).take sz⟩ else none
        |none=>none
      |_,_=>none
    |_=>(zeroL P T).map fun cs=>⟨some (.vp d 0),noK,oneB d (.var cs),[d],[]⟩
  | .store T x y, none => match ev sl x, ev sl y, szOf P T with
    | some (.vp id off, p), some (v, q), some n => match blk id, zmw v with
      |some (.var cs),some vs=>bif Nat.beq vs.length n&&Nat.ble (off+n) cs.length then some ⟨none,noK,oneB id (.var (zd5 cs off vs)),[],p++q⟩ else none
      |_,_=>none
    | some (.ap id sz i off, p), some (v, q), some n => match blk id, zmw v, h with
      | some (.arr sz' m row), some vs, .row row' => match frzL blk vs with
        | some (xs, ks) => bif Nat.beq sz sz' && Nat.beq xs.length n && Nat.ble (off + n) sz && !(killL ks id) then
            some ⟨none,killL ks,oneB id (.arr sz m row'),[],p++q++[∀k,k<m→row' k=bif Nat.beq k i then zd5 (row k) off xs else row k]⟩ else none
        |none=>none
      |_,_,_=>none
    |_,_,_=>none
  | .makeSlice T l c, some d => match P.underlying T, ev sl l, ev sl c with
    | some (.slice e), some (.int _ n, p), some (.int _ m, q) => match zeroL P e, P.info? e with
      |some z,some i=>bif Nat.beq z.length i.size then some ⟨some (.own d),noK,oneB d (.arr i.size n.toNat (fun _=>z)),[d],p++q++[0≤n∧n≤m∧(i.bytes:Int) * m≤281474976710656∧m≤9223372036854775807]⟩ else none
      |_,_=>none
    |_,_,_=>none
  | .buildSlice T len parts, some d => match P.underlying T, zcg sl parts.toList with
    | some (.slice e), some (vs, p) => match zeroL P e, szOf P e, frzP blk vs with
      | some z, some n, some (xs, ks) => match fillL (fun i => some (i * n, n)) ((List.replicate len z).flatten) xs with
        | some flat => bif Nat.beq z.length n && Nat.ble (len * n) 16777216 && Nat.ble 1 n then
            match h with
            |.row row'=>some ⟨some (.own d),killL ks,oneB d (.arr n len row'),[d],p++(List.range len).map fun i=>row' i=(flat.drop (i * n)).take n⟩
            |_=>bif Nat.ble len 1 then some ⟨some (.own d),killL ks,oneB d (.arr n len (fun _=>flat)),[d],p⟩ else none
          else none
        |none=>none
      |_,_,_=>none
    |_,_=>none
  | .call { callee := .builtin .append, args, argTypes }, some d => match args.toList, argTypes.toList, h with
    | [x, y], [T, T'], .row row' => match P.underlying T, ev sl x, ev sl y with
      | some (.slice e), some (x', p), some (y', q) => match P.info? e, arrOf blk y' with
        | some i, some (sz, m, row2, _) => match x' with
          | .nilS => bif zOk P e i && Nat.beq T T' && Nat.beq sz i.size && Nat.ble 1 i.bytes && Nat.ble 1 sz then
              some ⟨some (.own d),noK,oneB d (.arr sz m row'),[d],p++q++[∀k,k<m→row' k=row2 k,m * i.bytes≤140737488355328]⟩ else none
          | .own id => match blk id with
            | some (.arr sz' n row1) => bif zOk P e i && Nat.beq T T' && Nat.beq sz i.size && Nat.beq sz' sz && Nat.ble 1 i.bytes && Nat.ble 1 sz then
                some ⟨some (.own d),killL [id],oneB d (.arr sz (n+m) row'),[d],p++q++[∀k,k<n+m→row' k=bif Nat.blt k n then row1 k else row2 (k - n),(n+m) * i.bytes≤140737488355328]⟩ else none
            |_=>none
          |_=>none
        |_,_=>none
      |_,_,_=>none
    |_,_,_=>none
  | .call { callee := .value f, args, .. }, some d => match ev sl f, evs sl args.toList, h with
    | some (.fn g, p), some (xs, q), .res r arrs => match zj1 blk xs, P.funcs[g]? with
      | some ys, some fn => bif fn.body.isSome && !(fn.name == "runtime.NumGoroutine") then
          some ⟨some (ren (resId d) r),noK,resB d arrs,(List.range arrs.length).map (resId d),p++q++[Fn P g ys r arrs]⟩ else none
      |_,_=>none
    |some (.fn g,p),some (xs,q),.resM d' ids rbl r=>callM P blk g (xs++[]) (p++q) true d' ids rbl r
    |some (.clo g cs,p),some (xs,q),.resM d' ids rbl r=>callM P blk g (xs++cs) (p++q) true d' ids rbl r
    | some (.clo g cs, p), some (xs, q), .res r arrs => match zj1 blk (xs ++ cs), P.funcs[g]? with
      | some ys, some fn => bif fn.body.isSome && !(fn.name == "runtime.NumGoroutine") then
          some ⟨some (ren (resId d) r),noK,resB d arrs,(List.range arrs.length).map (resId d),p++q++[Fn P g ys r arrs]⟩ else none
      |_,_=>none
    |_,_,_=>none
  | .call { callee := .value f, args, .. }, none => match ev sl f, evs sl args.toList, h with
    |some (.fn g,p),some (xs,q),.resM d' ids rbl r=>callM P blk g (xs++[]) (p++q) false d' ids rbl r
    |some (.clo g cs,p),some (xs,q),.resM d' ids rbl r=>callM P blk g (xs++cs) (p++q) false d' ids rbl r
    |_,_,_=>none
  | .convert S T x, some d => match P.underlying S, P.underlying T, ev sl x, h with
    | some (.slice e), some .string, some (v, p), .ints l => match P.underlying e, arrOf blk v with
      |some (.int .u8),some (sz,n,row,_)=>bif Nat.beq sz 1 then some ⟨some (.str (l.map byteOf)),noK,fun _=>none,[],p++[n=l.length∧∀k,k<n→row k=[.int .u8 (l.getD k default)]]⟩ else none
      |_,_=>none
    |_,_,_,_=>none
  | .makeMap T none, some d => match P.underlying T with
    |some (.map K V)=>bif kdOk P K (kdOf P K)&&mapTy P V (newMV P V) then some ⟨some (.mp d),noK,oneB d (.mp (kdOf P K) (newMV P V)),[d],[]⟩ else none
    |_=>none
  | .mapUpdate T x i y, none => match P.underlying T, ev sl x, ev sl i, ev sl y with
    | some (.map K V), some (.mp id, p), some (kv, q), some (v, r) => match blk id with
      | some (.mp kd m) => match keyL kd kv with
        | some k => match m.setL k v with
          |some m'=>bif kdOk P K kd then some ⟨none,noK,oneB id (.mp kd m'),[],p++q++r⟩ else none
          |none=>none
        |none=>none
      |_=>none
    |_,_,_,_=>none
  | .insert T x i y, none => match P.underlying T, ev sl x, ev sl i, ev sl y with
    | some (.map K V), some (.mp id, p), some (kv, q), some (v, r) => match blk id with
      | some (.mp kd m) => match keyL kd kv with
        | some k => match m.setL k v with
          |some m'=>bif kdOk P K kd then some ⟨none,noK,oneB id (.mp kd m'),[],p++q++r⟩ else none
          |none=>none
        |none=>none
      |_=>none
    |_,_,_,_=>none
  | .slice T x lo hi none, some d => match P.underlying T, ev sl x with
    | some (.slice e), some (.own id, p) => match blk id, optN sl 0 lo, szOf P e with
      | some (.arr sz n row), some (l, q), some s => match optN sl n hi with
        | some (h', r) => bif Nat.beq s sz then
            some ⟨some (.own d),killL [id],oneB d (.arr sz (h'.toNat - l.toNat) (fun k=>row (l.toNat+k))),[d],p++q++r++[0≤l∧l≤h'∧h'≤(n:Int)]⟩ else none
        |none=>none
      |_,_,_=>none
    |_,_=>none
  |_,_=>none
def zc5(n m:Nat)(row row':Nat→List LV):Prop:=n=m∧∀k,k<n→row k=row' k
def cellLe(x y:LV):Prop:=x=y∨(x=.nilS∧∃fr sz row,y=.ro fr sz 0 row)
def zv8(l m:List LV):Prop:=l.length=m.length∧∀(j:Nat) x y,l[j]?=some x→m[j]?=some y→cellLe x y
def zzz(n m:Nat)(row row':Nat→List LV):Prop:=n=m∧∀k,k<n→zv8 (row k) (row' k)
def rowsR(wk:Bool)(n m:Nat)(row row':Nat→List LV):Prop:=bif wk then zzz n m row row' else zc5 n m row row'
theorem zw1{wk : Bool}{n m : Nat}{row row' : Nat → List LV}(h : rowsR wk n m row row') : zzz n m row row' := by
 cases wk with
 |true =>exact h
 |false =>exact⟨h.1,fun k hk=>by rw[h.2 k hk];exact⟨rfl,fun j x y h1 h2=>by rw[h1] at h2;cases h2;exact .inl rfl⟩⟩
def reB(wk : Bool)(id n : Nat)(row : Nat → List LV)(D : MD) : Option MD :=
  match D.ub id with
  |some (.arr sz n0 row0)=>some ⟨D.dst,D.K,fun j=>bif Nat.beq j id then some (.arr sz n row) else D.ub j,D.new,[All D.vcs∧rowsR wk n0 n row0 row]⟩
  |_=>none
def zhd : LV → Bool
  |.int _ _=>true
  |.bool _=>true
  |.str _=>true
  |_=>false
def nrOne(blk : Nat → Option BC)(v : LV) : Option (Option Nat × NR × List Nat) :=
  match v with
  | .own id => match blk id with
    |some (.arr sz n row)=>some (some sz,.row n row,[id])
    |_=>none
  |v=>bif zhd v then some (none,.cell v,[]) else none
def nrsGo(blk : Nat → Option BC)(sz : Nat) : List LV → Option (List NR × List Nat)
  |[]=>some ([],[])
  | v :: r => match nrOne blk v, nrsGo blk sz r with
    |some (s,x,is),some (xs,js)=>bif(match s with|some s=>Nat.beq s sz|none=>true) then some (x :: xs,is++js) else none
    |_,_=>none
def szOfs(blk : Nat → Option BC) : List LV → Nat
  |[]=>0
  | v :: r => match nrOne blk v with
    |some (some s,_)=>s
    |_=>szOfs blk r
def nrsOf(blk:Nat→Option BC)(cs:List LV):Option (Nat×List NR×List Nat):=(nrsGo blk (szOfs blk cs) cs).map fun x=>(szOfs blk cs,x)
def mopN(P : Program)(o : Oper)(sl : Nat → Option LV)(blk : Nat → Option BC)(h : Hint) : Option MD :=
  match o.op,o.dst with
  | .load T x, some d => match h with
    | .take g m row rows' => match ev sl x, aggOf P T with
      | some (.ap id sz1 i off, p), some false => match blk id with
        | some (.nest 1 cl sz n rows) => bif Nat.beq sz1 1 && Nat.beq off 0 then
            some ⟨some (.own d),noK,fun j=>bif Nat.beq j d then some (.arr sz m row) else oneB id (.nest 1 (g&&cl) sz n rows') j,[d],p++[rows i=.row m row∧rows' i=(bif g then .gone else .out d)∧∀k,k<n→k≠i→rows' k=rows k]⟩ else none
        | some (.nest wd cl sz n rows) => bif Nat.beq sz1 wd && Nat.blt off wd then
            some ⟨some (.own d),noK,fun j=>bif Nat.beq j d then some (.arr sz m row) else oneB id (.nest wd (g&&cl) sz n rows') j,[d],p++[rows (i * wd+off)=.row m row∧rows' (i * wd+off)=(bif g then .gone else .out d)∧∀k,k<cN wd n→k≠i * wd+off→rows' k=rows k]⟩ else none
        |_=>none
      |_,_=>none
    | .elt pre m row rows' => match ev sl x, aggOf P T, szOf P T with
      | some (.ap id sz1 i off, p), some true, some one => match blk id with
        | some (.nest wd cl sz n rows) => bif Nat.beq sz1 wd && (Nat.beq off 0 && (Nat.beq one wd && (Nat.beq (pre.length + 1) wd && pre.all zhd))) then
            some ⟨some (.agg (pre++[.own d])),noK,fun j=>bif Nat.beq j d then some (.arr sz m row) else oneB id (.nest wd (true&&cl) sz n rows') j,[d],p++[(rows (i * wd+pre.length)=.row m row∧rows' (i * wd+pre.length)=.gone∧∀k,k<cN wd n→k≠i * wd+pre.length→rows' k=rows k)∧∀j,j<pre.length→rows (i * wd+j)=.cell (pre.getD j .any)]⟩ else none
        |_=>none
      |_,_,_=>none
    |_=>none
  | .buildSlice T len parts, some d => match h with
    | .nst _ n' rows' => match P.underlying T, zcg sl parts.toList with
      | some (.slice e), some ([(i0, [.own f])], p) => match zeroL P e, szOf P e, blk f with
        | some [.nilS], some one, some (.arr sz m row) => bif Nat.beq i0 0 && (Nat.beq len 1 && Nat.beq one 1) then
            some ⟨some (.own d),killL [f],oneB d (.nest 1 true sz n' rows'),[d],p++[1=n'∧rows' 0=.row m row]⟩ else none
        |_,_,_=>none
      | some (.slice e), some ([(i0, cs)], p) => match zeroL P e, szOf P e, nrsOf blk cs with
        | some z, some wd, some (sz, rs, ids) => bif Nat.beq i0 0 && (Nat.beq len 1 && (Nat.beq z.length wd && (Nat.beq cs.length wd && (Nat.ble wd 16777216 && zis ids)))) then
            some ⟨some (.own d),killL ids,oneB d (.nest wd true sz n' rows'),[d],p++[1=n'∧∀j,j<wd→rows' j=rs.getD j .gone]⟩ else none
        |_,_,_=>none
      |_,_=>none
    | .nstM sz n' rows' => match P.underlying T, zcg sl parts.toList with
      | some (.slice e), some ([], p) => match zeroL P e, szOf P e with
        | some z, some one => bif Nat.beq len 0 && Nat.beq z.length one then
            some ⟨some (.own d),noK,oneB d (.nest one true sz n' rows'),[d],p++[n'=0]⟩ else none
        |_,_=>none
      |_,_=>none
    |_=>none
  | .call { callee := .builtin .append, args, argTypes }, some d => match h with
    | .nst _ n' rows' => match args.toList, argTypes.toList with
      | [x, y], [T, T'] => match P.underlying T, ev sl x, ev sl y with
        | some (.slice e), some (x', p), some (.own f, q) => match P.info? e, blk f with
          | some i, some (.nest 1 cl2 sz one rows2) => match x' with
            | .nilS => bif zOk P e i && (Nat.beq T T' && (Nat.beq i.size 1 && (Nat.ble 1 i.bytes && (Nat.beq one 1 && cl2)))) then
                some ⟨some (.own d),killL [f],oneB d (.nest 1 true sz n' rows'),[d],p++q++[(1=n'∧rows' 0=rows2 0)∧i.bytes≤140737488355328]⟩ else none
            | .own id => match blk id with
              | some (.nest 1 cl1 sz1 n rows1) => bif zOk P e i && (Nat.beq T T' && (Nat.beq i.size 1 && (Nat.ble 1 i.bytes && (Nat.beq one 1 && (cl2 && (cl1 && (Nat.beq sz1 sz && !Nat.beq id f))))))) then
                  some ⟨some (.own d),killL [id,f],oneB d (.nest 1 true sz n' rows'),[d],p++q++[(n+1=n'∧(∀k,k<n→rows' k=rows1 k)∧rows' n=rows2 0)∧(n+1) * i.bytes≤140737488355328]⟩ else none
              |_=>none
            |_=>none
          | some i, some (.nest wd cl2 sz one rows2) => match x' with
            | .nilS => bif zOk P e i && (Nat.beq T T' && (Nat.beq i.size wd && (Nat.ble 1 wd && (Nat.ble 1 i.bytes && (Nat.beq one 1 && cl2))))) then
                some ⟨some (.own d),killL [f],oneB d (.nest wd true sz n' rows'),[d],p++q++[(1=n'∧∀j,j<wd→rows' j=rows2 j)∧i.bytes≤140737488355328]⟩ else none
            | .own id => match blk id with
              | some (.nest wd1 cl1 sz1 n rows1) => bif zOk P e i && (Nat.beq T T' && (Nat.beq i.size wd && (Nat.ble 1 wd && (Nat.ble 1 i.bytes && (Nat.beq one 1 && (cl2 && (cl1 && (Nat.beq sz1 sz && (Nat.beq wd1 wd && !Nat.beq id f))))))))) then
                  some ⟨some (.own d),killL [id,f],oneB d (.nest wd true sz n' rows'),[d],p++q++[(n+1=n'∧(∀k,k<cN wd n→rows' k=rows1 k)∧∀j,j<wd→rows' (n * wd+j)=rows2 j)∧(n+1) * i.bytes≤140737488355328]⟩ else none
              |_=>none
            |_=>none
          |_,_=>none
        |_,_,_=>none
      |_,_=>none
    |_=>none
  |_,_=>none
def mop(P : Program)(o : Oper)(sl : Nat → Option LV)(blk : Nat → Option BC)(h : Hint) : Option MD :=
  match h with
  | .rowN id n row => match mop0 P o sl blk (.row row) with
    |some D=>reB false id n row D
    |none=>none
  | .rowW id n row => match mop0 P o sl blk .no with
    |some D=>reB true id n row D
    |none=>none
  |.nst _ _ _=>mopN P o sl blk h
  |.nstM _ _ _=>mopN P o sl blk h
  |.take _ _ _ _=>mopN P o sl blk h
  |.elt _ _ _ _=>mopN P o sl blk h
  |h=>mop0 P o sl blk h
theorem znf{wk:Bool}{id n:Nat}{row:Nat→List LV}{D D':MD}(h:reB wk id n row D=some D'):∃sz n0 row0,D.ub id=some (.arr sz n0 row0)∧D'=⟨D.dst,D.K,fun j=>bif Nat.beq j id then some (.arr sz n row) else D.ub j,D.new,[All D.vcs∧rowsR wk n0 n row0 row]⟩:=by unfold reB at h;grind
theorem z37{id n sz n0 : Nat}{row row0 : Nat → List LV}{D : MD}(hu : D.ub id = some (.arr sz n0 row0)){i : Nat}(hi : (bif Nat.beq i id then some (BC.arr sz n row) else D.ub i) ≠ none) : D.ub i ≠ none := by
 cases hb:Nat.beq i id with
 |true =>rw[oo hb,hu];simp
 |false =>rw[hb] at hi;exact hi
theorem ziw{P : Program}{o : Oper}{sl : Nat → Option LV}{blk : Nat → Option BC}{h : Hint}{D : MD}(hm : mop P o sl blk h = some D) : mop0 P o sl blk h = some D ∨ (∃wk id n row D0 hi, (h = .rowN id n row ∧ hi = .row row ∨ h = .rowW id n row ∧ hi = .no) ∧ mop0 P o sl blk hi = some D0 ∧ reB wk id n row D0 = some D) ∨ mopN P o sl blk h = some D := by
 unfold mop at hm;split at hm
 ·grind
 ·grind
 ·grind
 ·grind
 ·grind
 ·grind
 grind
end Go.Lite
