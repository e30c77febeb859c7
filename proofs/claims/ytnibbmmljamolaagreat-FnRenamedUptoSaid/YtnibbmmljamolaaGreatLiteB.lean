/- Operations that yield a value and leave memory alone, computed on symbolic values; each is sound. Conditions: none; over any program. -/
import Derived.Test.YtnibbmmljamolaaGreatLiteA
namespace Go.Lite
open Go Go.RowKit

def All : List Prop → Prop
  |[]=>True
  |p :: r=>p∧All r
theorem All.append{l r : List Prop} : All (l ++ r) ↔ All l ∧ All r := by
 induction l with
 |nil =>simp[All]
 |cons p l ih =>simp[All,ih,and_assoc]
theorem All.map_imp{c : Prop}{l : List Prop}(h : All (l.map fun p => c → p))(hc : c) : All l := by
 induction l with
 |nil =>trivial
 |cons p l ih =>exact⟨h.1 hc,ih h.2⟩

def inR : IntKind → Int → Prop
  |.i8,n=>-128≤n∧n≤127
  |.i16,n=>-32768≤n∧n≤32767
  |.i32,n=>-2147483648≤n∧n≤2147483647
  |.i64,n=>-9223372036854775808≤n∧n≤9223372036854775807
  |.u8,n=>0≤n∧n≤255
  |.u16,n=>0≤n∧n≤65535
  |.u32,n=>0≤n∧n≤4294967295
  |.u64,n=>0≤n∧n≤18446744073709551615
theorem zc3{k:IntKind}{n:Int}(h:inR k n):k.wrap n=n:=by cases k<;>simp only[inR] at h<;>simp[IntKind.wrap,IntKind.signed,IntKind.bits]<;>omega

inductive Hint where
  |no
  |wrap
  |res (r:LV) (arrs:List BC)
  |nst (cl:Bool) (n:Nat) (rows:Nat→NR)
  |nstM (sz n:Nat) (rows:Nat→NR)
  |take (g:Bool) (n:Nat) (row:Nat→List LV) (rows:Nat→NR)
  |elt (pre:List LV) (n:Nat) (row:Nat→List LV) (rows:Nat→NR)
  |row (row:Nat→List LV)
  |rowN (id n:Nat) (row:Nat→List LV)
  |rowW (id n:Nat) (row:Nat→List LV)
  |resM (d:Nat) (ids:List Nat) (rbl:List (Nat×BC)) (r:LV)
  |ints (l:List Int)
  |gT (h:Hint)
  |gF

def strip : LV → LV × List Prop
  |.whn b v=>(v,[b=true])
  |v=>(v,[])

def ofVal : Value → Option LV
  |.int k n=>some (.int k n)
  |.bool b=>some (.bool b)
  |.string s=>some (.str s.data.toList)
  |.slice none 0 0=>some .nilS
  |.map none=>some .nilM
  |.pointer none=>some .nilP
  |.nilIface=>some (.er false)
  |.nilFunc=>some .fv
  |_=>none
def zmp : List Value → Option (List LV)
  |[]=>some []
  | v :: r => match ofVal v, zmp r with
    |some x,some xs=>some (x :: xs)
    |_,_=>none
def zvj : Value → Option LV
  |.agg cs=>(zmp cs.toList).map .agg
  |v=>ofVal v
def cellsOf : LV → List LV
  |.agg l=>l
  |v=>[v]

def ev(sl : Nat → Option LV) : Operand → Option (LV × List Prop)
  |.tmp t=>(sl t).map strip
  |.const v=>(zvj v).map fun x=>(x,[])
  |.func f=>some (.fn f,[])
  |.global g=>(gRow g).map fun r=>(.ep r 0,[])

def aggOf(P : Program)(T : TypeId) : Option Bool :=
  match P.underlying T with
  |some (.struct _)|some (.array _ _)=>some true
  |some _=>some false
  |none=>none
def szOf (P : Program) (T : TypeId) : Option Nat := (P.info? T).map (·.size)
def loadL(P : Program)(T : TypeId)(row : List LV)(off : Nat) : Option LV :=
  match aggOf P T,szOf P T with
  |some true,some n=>bif Nat.ble (off+n) row.length then some (.agg ((row.drop off).take n)) else none
  |some false,_=>row[off]?
  |_,_=>none
def znp(P : Program)(T : TypeId)(f : Nat) : Option Nat :=
  match P.underlying T with
  | some (.struct fs) => match fs[f]? with
    | some fl => match szOf P fl.type with
      |some (_+1)=>some fl.offset
      |_=>none
    |none=>none
  |_=>none
def zsz : List LV → Option (List Bool)
  |[]=>some []
  | .bool b :: r => (zsz r).map (b :: ·)
  |_=>none
def zwz : List LV → Option (List (List UInt8))
  |[]=>some []
  | .str b :: r => (zwz r).map (b :: ·)
  |_=>none
def binL(op : BinOp)(wr : Bool)(x y : LV) : Option (LV × List Prop) :=
  match x,y with
  | .int k a, .int k' b => bif decide (k = k') then
      match op with
      |.add=>bif wr then some (.int k (k.wrap (a+b)),[]) else some (.int k (a+b),[inR k (a+b)])
      |.sub=>bif wr then some (.int k (k.wrap (a - b)),[]) else some (.int k (a - b),[inR k (a - b)])
      |.mul=>bif wr then some (.int k (k.wrap (a * b)),[]) else some (.int k (a * b),[inR k (a * b)])
      |.quo=>bif wr then some (.int k (k.wrap (a.tdiv b)),[b≠0]) else some (.int k (a.tdiv b),[b≠0,inR k (a.tdiv b)])
      |.rem=>some (.int k (a.tmod b),[b≠0])
      |.eql=>some (.bool (decide (a=b)),[])
      |.neq=>some (.bool (!decide (a=b)),[])
      |.lss=>some (.bool (decide (a<b)),[])
      |.leq=>some (.bool (decide (a≤b)),[])
      |.gtr=>some (.bool (decide (b<a)),[])
      |.geq=>some (.bool (decide (b≤a)),[])
      |.and=>some (.int k (bits .and k a b),[])
      |.or=>some (.int k (bits .or k a b),[])
      |.xor=>some (.int k (bits .xor k a b),[])
      |.shl=>bif wr then some (.int k (k.wrap (a * 2 ^ b.toNat)),[0≤b∧b≤k.bits]) else some (.int k (a * 2 ^ b.toNat),[0≤b∧b≤k.bits,inR k (a * 2 ^ b.toNat)])
      |.shr=>some (.int k (a / 2 ^ b.toNat),[0≤b∧b≤k.bits])
      |_=>none
    else match op with
      |.shl=>bif wr then some (.int k (k.wrap (a * 2 ^ b.toNat)),[0≤b∧b≤k.bits]) else some (.int k (a * 2 ^ b.toNat),[0≤b∧b≤k.bits,inR k (a * 2 ^ b.toNat)])
      |.shr=>some (.int k (a / 2 ^ b.toNat),[0≤b∧b≤k.bits])
      |_=>none
  | .str a, .str b => match op with
    |.add=>some (.str (a++b),[((a.length+b.length:Nat):Int)≤9223372036854775807])
    |.eql=>some (.bool (a==b),[])
    |.neq=>some (.bool (!(a==b)),[])
    |.lss=>some (.bool (Op.bytesLess a b),[])
    |.leq=>some (.bool (Op.bytesLess a b||a==b),[])
    |.gtr=>some (.bool (!(Op.bytesLess a b||a==b)),[])
    |.geq=>some (.bool (!Op.bytesLess a b),[])
    |_=>none
  |_,_=>none
def eqFs(P : Program)(l m : List LV) : List Field → Option Bool
  |[]=>some true
  | f :: fs => match aggOf P f.type, P.underlying f.type, l[f.offset]?, m[f.offset]?, eqFs P l m fs with
    | some false, some (.int _), some (.int k a), some (.int k' b), some c => bif decide (k = k') && !decide (f.name = "_") then some (decide (a = b) && c) else none
    | some false, some .bool, some (.bool a), some (.bool b), some c => bif !decide (f.name = "_") then some ((a == b) && c) else none
    | some false, some .string, some (.str a), some (.str b), some c => bif !decide (f.name = "_") then some ((a == b) && c) else none
    |_,_,_,_,_=>none
def eqOk(P:Program)(T:TypeId):Bool:=!P.stoodInHeld T&&!P.eqGuardType P.depth T
def binB(P : Program)(op : BinOp)(T : TypeId)(x y : LV) : Option LV :=
  match x,y,P.underlying T,op with
  |.bool a,.bool b,some .bool,.eql=>some (.bool (a==b))
  |.bool a,.bool b,some .bool,.neq=>some (.bool (!(a==b)))
  |.agg l,.agg m,some (.struct fs),.eql=>bif eqOk P T then(eqFs P l m fs.toList).map .bool else none
  |.agg l,.agg m,some (.struct fs),.neq=>bif eqOk P T then(eqFs P l m fs.toList).map fun b=>.bool (!b) else none
  |_,_,_,_=>none
def z02 : Operand → Bool
  |.const .nilIface=>true
  |_=>false
def binN(P : Program)(op : BinOp)(T : TypeId)(x : LV)(y : Bool) : Option LV :=
  match x,y,P.underlying T,op with
  |.er b,true,some (.interface _),.eql=>some (.bool (!b))
  |.er b,true,some (.interface _),.neq=>some (.bool b)
  |_,_,_,_=>none
def maxL(mx : Bool)(k : IntKind)(a : Int) : List LV → Option LV
  |[]=>some (.int k a)
  |.int _ b :: r=>bif mx then maxL mx k (Max.max a b) r else maxL mx k (Min.min a b) r
  |_=>none
def evs(sl : Nat → Option LV) : List Operand → Option (List LV × List Prop)
  |[]=>some ([],[])
  | o :: r => match ev sl o, evs sl r with
    |some (x,p),some (xs,q)=>some (x :: xs,p++q)
    |_,_=>none
def lenL(P : Program)(T : TypeId)(blk : Nat → Option BC)(x : LV) : Option Nat :=
  match P.underlying T,x with
  |some .string,.str s=>some s.length
  |some (.slice _),.ro _ _ n _=>some n
  |some (.slice _),.nilS=>some 0
  | some (.slice _), .own id => match blk id with
    |some (.arr _ n _)=>some n
    |some (.nest _ _ _ n _)=>some n
    |_=>none
  |_,_=>none
def z00 : Hint → Bool
  |.wrap=>true
  |_=>false

def vop(P : Program)(o : Oper)(sl : Nat → Option LV)(blk : Nat → Option BC)(h : Hint) : Option (LV × List Prop) :=
  match o.op with
  |.move x|.assign x=>ev sl x
  | .pick c a b => match ev sl c, ev sl a, ev sl b with
    |some (.bool x,p),some (.bool y,q),some (.bool z,r)=>some (.bool (cond x y z),p++(q.map fun t=>x=true→t)++(r.map fun t=>x=false→t))
    |_,_,_=>none
  | .load T x => match ev sl x with
    | some (.vp id off, p) => match blk id with
      |some (.var cells)=>(loadL P T cells off).map fun v=>(v,p)
      |_=>none
    |some (.ep row off,p)=>(loadL P T row off).map fun v=>(v,p)
    | some (.ap id sz i off, p) => match blk id with
      |some (.arr sz' _ row)=>bif Nat.beq sz sz' then(loadL P T (row i) off).map fun v=>(v,p) else none
      |_=>none
    |_=>none
  | .fieldAddr T x f => match ev sl x, znp P T f with
    |some (.vp id off,p),some k=>some (.vp id (off+k),p)
    |some (.ep row off,p),some k=>some (.ep row (off+k),p)
    |some (.ap id sz i off,p),some k=>some (.ap id sz i (off+k),p)
    |_,_=>none
  | .indexAddr T x i => match P.underlying T, ev sl x, ev sl i with
    |some (.slice e),some (.ro _ sz n row,p),some (.int _ j,q)=>bif(match szOf P e with|some s=>Nat.beq s sz|none=>false) then some (.ep (row j.toNat) 0,p++q++[0≤j∧j<(n:Int)]) else none
    | some (.slice e), some (.own id, p), some (.int _ j, q) => match blk id with
      |some (.arr sz n _)=>bif(match szOf P e with|some s=>Nat.beq s sz|none=>false) then some (.ap id sz j.toNat 0,p++q++[0≤j∧j<(n:Int)]) else none
      |some (.nest wd _ _ n _)=>bif(match szOf P e with|some s=>Nat.beq s wd|none=>false) then some (.ap id wd j.toNat 0,p++q++[0≤j∧j<(n:Int)]) else none
      |_=>none
    | some (.array n e), some (.ep row off, p), some (.int _ j, q) => match zwz row with
      |some ws=>bif(match szOf P e with|some s=>Nat.beq s 1&&Nat.beq row.length n&&Nat.beq off 0|none=>false) then some (.ep [.str (ws.getD j.toNat [])] 0,p++q++[0≤j∧j<(n:Int)]) else none
      |none=>none
    | some (.array n e), some (.ap id sz i0 off, p), some (.int _ j, q) => match blk id with
      |some (.arr sz' m _)=>bif(match szOf P e with|some s=>Nat.beq s sz&&Nat.beq sz sz'&&Nat.beq i0 0&&Nat.beq off 0|none=>false) then some (.ap id sz j.toNat 0,p++q++[0≤j∧j<(n:Int),j<(m:Int)]) else none
      |_=>none
    |_,_,_=>none
  | .index T x i => match P.underlying T, ev sl x, ev sl i with
    |some .string,some (.str s,p),some (.int _ j,q)=>some (.int .u8 ((s.getD j.toNat 0).toNat:Int),p++q++[0≤j∧j<(s.length:Int)])
    | some (.array n e), some (.agg l, p), some (.int _ j, q) => match zsz l, aggOf P e, szOf P e with
      |some bs,some false,some 1=>bif Nat.beq n bs.length then some (.bool (bs.getD j.toNat false),p++q++[0≤j∧j<(n:Int)]) else none
      |_,_,_=>none
    |_,_,_=>none
  | .binOp op T x y _ => match ev sl x, ev sl y with
    | some (x', p), some (y', q) => match binL op (z00 h) x' y' with
      |some (v,r)=>some (v,p++q++r)
      | none => match binB P op T x' y' with
        |some v=>some (v,p++q)
        |none=>(binN P op T x' (z02 y)).map fun v=>(v,p++q)
    |_,_=>none
  | .unOp .not _ x => match ev sl x with
    |some (.bool b,p)=>some (.bool (!b),p)
    |_=>none
  | .unOp .neg _ x => match ev sl x with
    |some (.int k n,p)=>some (.int k (-n),p++[inR k (-n)])
    |_=>none
  | .extract x i => match ev sl x with
    |some (.tup l,p)=>(l[i]?).map fun v=>(v,p)
    |_=>none
  | .convert S T x => match P.underlying S, P.underlying T, ev sl x with
    |some _,some (.int k),some (.int _ n,p)=>bif z00 h then some (.int k (k.wrap n),p) else some (.int k n,p++[inR k n])
    |_,_,_=>none
  | .nilCheck x => match ev sl x with
    |some (.vp id off,p)=>some (.vp id off,p)
    |some (.ep row off,p)=>some (.ep row off,p)
    |some (.ap id sz i off,p)=>some (.ap id sz i off,p)
    |_=>none
  | .call { callee := .builtin .len, args, argTypes } => match args.toList, argTypes.toList with
    | [x], [T] => match ev sl x with
      |some (x',p)=>(lenL P T blk x').map fun (n:Nat)=>(.int .i64 (n:Int),p)
      |none=>none
    |_,_=>none
  | .call { callee := .builtin .max, args, .. } => match evs sl args.toList with
    |some (.int k a :: r,p)=>(maxL true k a r).map fun v=>(v,p)
    |_=>none
  | .call { callee := .builtin .min, args, .. } => match evs sl args.toList with
    |some (.int k a :: r,p)=>(maxL false k a r).map fun v=>(v,p)
    |_=>none
  |_=>none

end Go.Lite
