/- Symbolic values of a heap-free reading of the model, what they stand for, and that what they stand for survives changes of memory elsewhere. Conditions: none; definitions and lemmas over any program. -/
import Derived.WalkKit
namespace Go.Lite
open Go Go.RowKit

/-- A map's key, as plain data. -/
inductive KV where
  | s (l : List UInt8)
  | i (n : Int)
  | p (a b : Int)
  deriving DecidableEq
/-- How keys are written. -/
inductive KD where
  | str
  | int (k : IntKind)
  | pair
def KD.key : KD → Value → Option KV
  | .str, .string s => some (.s s.data.toList)
  | .int k, .int k' n => bif decide (k = k') then some (.i n) else none
  | .pair, .agg vs => match vs.toList with
    | [.int .i64 a, .int .i64 b] => some (.p a b)
    | _ => none
  | _, _ => none
/-- What a map holds, by key. -/
inductive MV where
  | b (f : KV → Option Bool)
  | i (f : KV → Option Int)
def MV.val : MV → KV → Option Value
  | .b f, k => (f k).map Value.bool
  | .i f, k => (f k).map (Value.int .i64)
def findM (kd : KD) : List MapEntry → KV → Option Value
  | [], _ => none
  | e :: r, k => if kd.key e.key = some k then some e.val else findM kd r k
/-- A map's entries hold what a function says. -/
def MapOk (kd : KD) (m : MV) (es : Array MapEntry) : Prop := (∀ e ∈ es.toList, (kd.key e.key).isSome = true) ∧ ∀ k, findM kd es.toList k = m.val k

/-- A symbolic value. Its leaves are plain terms. -/
inductive LV where
  | int (k : IntKind) (n : Int)
  | bool (b : Bool)
  | str (s : List UInt8)
  | agg (l : List LV)
  | tup (l : List LV)
  | ro (fr : Bool) (sz n : Nat) (row : Nat → List LV)
  | ep (row : List LV) (off : Nat)
  | nilS
  | nilM
  | nilP
  | fn (f : Nat)
  | clo (f : Nat) (l : List LV)
  | vp (id off : Nat)
  | own (id : Nat)
  | ap (id sz i off : Nat)
  | mp (id : Nat)
  | whn (b : Bool) (v : LV)
  | k (b o : Nat)
  | er (b : Bool)
  | fv
  | ifc (t : Nat) (v : LV)

/-- It takes one cell. -/
def isOne : LV → Bool
  | .agg _ => false
  | .tup _ => false
  | .whn _ _ => false
  | _ => true

/-- What a block of the call's own holds: a variable's cells, or an array's rows. -/
inductive BC where
  | var (cells : List LV)
  | arr (sz n : Nat) (row : Nat → List LV)
  | mp (kd : KD) (m : MV)

/-- The value that a closed symbolic value stands for in a world. Memory that it reaches lies outside X; where a slice is marked fresh, from B on. -/
inductive RepC (w : World) (B : Nat) (X : Nat → Prop) : LV → Value → Prop
  | int (k : IntKind) (n : Int) : RepC w B X (.int k n) (.int k n)
  | bool (b : Bool) : RepC w B X (.bool b) (.bool b)
  | str (s : List UInt8) : RepC w B X (.str s) (.string ⟨s.toArray⟩)
  | agg (l : List LV) (vs : Array Value) (hl : vs.size = l.length) (h : ∀ (i : Nat) lv v, l[i]? = some lv → vs[i]? = some v → RepC w B X lv v) : RepC w B X (.agg l) (.agg vs)
  | tup (l : List LV) (vs : Array Value) (hl : vs.size = l.length) (h : ∀ (i : Nat) lv v, l[i]? = some lv → vs[i]? = some v → RepC w B X lv v) : RepC w B X (.tup l) (.tuple vs)
  | ro (fr : Bool) (sz n : Nat) (row : Nat → List LV) (A : Option Addr) (ad : Addr) (cap : Nat) (cv : Nat → Nat → Value) (hcap : n ≤ cap) (hA : 0 < n → A = some ad) (hlt : 0 < n → ad.block < w.heap.size)
      (hX : 0 < n → ¬ X ad.block) (hB : 0 < n → fr = true → B ≤ ad.block) (hsz : ∀ i, i < n → (row i).length = sz) (ho : ∀ i, i < n → ∀ lv ∈ row i, isOne lv = true)
      (hc : ∀ i j, i < n → j < sz → w.cell? (ad.add (i * sz + j)) = some (cv i j))
      (h : ∀ (i j : Nat) lv, i < n → (row i)[j]? = some lv → RepC w B X lv (cv i j)) : RepC w B X (.ro fr sz n row) (.slice A n cap)
  | ep (row : List LV) (off : Nat) (ad : Addr) (cv : Nat → Value) (hlt : ad.block < w.heap.size) (hX : ¬ X ad.block) (hc : ∀ j, j < row.length → w.cell? (ad.add j) = some (cv j))
      (h : ∀ (j : Nat) lv, row[j]? = some lv → RepC w B X lv (cv j)) : RepC w B X (.ep row off) (.pointer (some (ad.add off)))
  | nilS : RepC w B X .nilS (.slice none 0 0)
  | nilM : RepC w B X .nilM (.map none)
  | nilP : RepC w B X .nilP (.pointer none)
  | clo (f : Nat) (l : List LV) (vs : Array Value) (hl : vs.size = l.length) (h : ∀ (i : Nat) lv v, l[i]? = some lv → vs[i]? = some v → RepC w B X lv v) : RepC w B X (.clo f l) (.func (.func f) #[] vs)
  | fn (f : Nat) : RepC w B X (.fn f) (.func (.func f) #[] #[])
  | k (b o : Nat) : RepC w B X (.k b o) (.pointer (some ⟨b, o, none⟩))
  | er (b : Bool) (v : Value) (h0 : b = false → v = .nilIface) (h1 : b = true → ∃ t u, v = .iface t u) : RepC w B X (.er b) v
  | fv (f : Fn) (cs : Array Value) : RepC w B X .fv (.func f #[] cs)
  | fv0 : RepC w B X .fv .nilFunc
  | ifc (t : Nat) (lv : LV) (v : Value) (h : RepC w B X lv v) : RepC w B X (.ifc t lv) (.iface t v)

/-- What is known of a name: its block, where its cells begin, the slice's value, its length. -/
structure EI where
  b : Option Nat
  off : Nat
  A : Option Addr
  vn : Nat
  vc : Nat
  n : Nat
/-- The slice's value. -/
def EI.val (e : EI) : Value := .slice e.A e.vn e.vc

abbrev Env := Nat → EI

/-- A symbolic value mentions a name. -/
inductive Ment : LV → Nat → Prop
  | vp (id off : Nat) : Ment (.vp id off) id
  | own (id : Nat) : Ment (.own id) id
  | ap (id sz i off : Nat) : Ment (.ap id sz i off) id
  | mp (id : Nat) : Ment (.mp id) id
  | agg (l : List LV) (lv : LV) (id : Nat) (h : lv ∈ l) (h' : Ment lv id) : Ment (.agg l) id
  | tup (l : List LV) (lv : LV) (id : Nat) (h : lv ∈ l) (h' : Ment lv id) : Ment (.tup l) id
  | clo (f : Nat) (l : List LV) (lv : LV) (id : Nat) (h : lv ∈ l) (h' : Ment lv id) : Ment (.clo f l) id
  | whn (b : Bool) (lv : LV) (id : Nat) (hb : b = true) (h' : Ment lv id) : Ment (.whn b lv) id
  | ifc (t : Nat) (lv : LV) (id : Nat) (h' : Ment lv id) : Ment (.ifc t lv) id

/-- The same with names. -/
inductive RepV (w : World) (B : Nat) (X : Nat → Prop) (E : Env) : LV → Value → Prop
  | c (lv : LV) (v : Value) (h : RepC w B X lv v) : RepV w B X E lv v
  | vp (id off b : Nat) (hb : (E id).b = some b) : RepV w B X E (.vp id off) (.pointer (some ⟨b, off, none⟩))
  | own (id : Nat) : RepV w B X E (.own id) (E id).val
  | ap (id sz i off b : Nat) (hb : (E id).b = some b) (hi : i < (E id).n) : RepV w B X E (.ap id sz i off) (.pointer (some ⟨b, (E id).off + i * sz + off, none⟩))
  | mp (id b : Nat) (hb : (E id).b = some b) : RepV w B X E (.mp id) (.map (some b))
  | agg (l : List LV) (vs : Array Value) (hl : vs.size = l.length) (h : ∀ (i : Nat) lv v, l[i]? = some lv → vs[i]? = some v → RepV w B X E lv v) : RepV w B X E (.agg l) (.agg vs)
  | tup (l : List LV) (vs : Array Value) (hl : vs.size = l.length) (h : ∀ (i : Nat) lv v, l[i]? = some lv → vs[i]? = some v → RepV w B X E lv v) : RepV w B X E (.tup l) (.tuple vs)
  | clo (f : Nat) (l : List LV) (vs : Array Value) (hl : vs.size = l.length) (h : ∀ (i : Nat) lv v, l[i]? = some lv → vs[i]? = some v → RepV w B X E lv v) : RepV w B X E (.clo f l) (.func (.func f) #[] vs)
  | whn (b : Bool) (lv : LV) (v : Value) (h : b = true → RepV w B X E lv v) (hn : b = false → v = undef) : RepV w B X E (.whn b lv) v
  | ifc (t : Nat) (lv : LV) (v : Value) (h : RepV w B X E lv v) : RepV w B X E (.ifc t lv) (.iface t v)

theorem add_block (a : Addr) (n : Nat) : (a.add n).block = a.block := by unfold Addr.add; split <;> rfl
theorem add_add (a : Addr) (i j : Nat) : (a.add i).add j = a.add (i + j) := by
  unfold Addr.add
  by_cases hi : i = 0 <;> by_cases hj : j = 0 <;> simp [hi, hj, Nat.add_assoc]
theorem add_lit (b o n : Nat) : (⟨b, o, none⟩ : Addr).add n = ⟨b, o + n, none⟩ := by
  unfold Addr.add; split <;> simp_all

theorem RepC.keep {w w' : World} {B B' : Nat} {X X' : Nat → Prop} {lv : LV} {v : Value} (h : RepC w B X lv v) (hs : w.heap.size ≤ w'.heap.size)
    (hk : ∀ b, b < w.heap.size → ¬ X b → w'.heap[b]? = w.heap[b]?) (hx : ∀ b, X' b → X b ∨ w.heap.size ≤ b) (hB : B' ≤ B) : RepC w' B' X' lv v := by
  induction h with
  | int k n => exact .int k n
  | bool b => exact .bool b
  | str s => exact .str s
  | agg l vs hl _ ih => exact .agg l vs hl ih
  | tup l vs hl _ ih => exact .tup l vs hl ih
  | ro fr sz n row A ad cap cv hcap hA hlt hX hb hsz ho hc _ ih =>
    refine .ro fr sz n row A ad cap cv hcap hA (fun h0 => Nat.lt_of_lt_of_le (hlt h0) hs) (fun h0 hxx => ?_) (fun h0 hf => Nat.le_trans hB (hb h0 hf)) hsz ho (fun i j hi hj => ?_) ih
    · rcases hx _ hxx with h1 | h1
      · exact hX h0 h1
      · have := hlt h0; omega
    · have h0 : 0 < n := by omega
      rw [World.cell?_of_block (w := w) (by rw [add_block]; exact hk _ (hlt h0) (hX h0))]
      exact hc i j hi hj
  | ep row off ad cv hlt hX hc _ ih =>
    refine .ep row off ad cv (Nat.lt_of_lt_of_le hlt hs) (fun hxx => ?_) (fun j hj => ?_) ih
    · rcases hx _ hxx with h1 | h1
      · exact hX h1
      · omega
    · rw [World.cell?_of_block (w := w) (by rw [add_block]; exact hk _ hlt hX)]
      exact hc j hj
  | nilS => exact .nilS
  | nilM => exact .nilM
  | nilP => exact .nilP
  | clo f l vs hl _ ih => exact .clo f l vs hl ih
  | fn f => exact .fn f
  | k b o => exact .k b o
  | er b v h0 h1 => exact .er b v h0 h1
  | fv f cs => exact .fv f cs
  | fv0 => exact .fv0
  | ifc t lv v _ ih => exact .ifc t lv v ih

theorem RepC.noMent {w : World} {B : Nat} {X : Nat → Prop} {lv : LV} {v : Value} (h : RepC w B X lv v) : ∀ id, ¬ Ment lv id := by
  induction h with
  | agg l vs hl _ ih =>
    intro id hm
    cases hm with
    | agg _ lv _ hlv hm' =>
      obtain ⟨i, hi, e⟩ := List.getElem_of_mem hlv
      have hv : vs[i]? = some (vs[i]'(by omega)) := Array.getElem?_eq_getElem (by omega)
      exact ih i lv _ (by rw [List.getElem?_eq_getElem hi, e]) hv id hm'
  | tup l vs hl _ ih =>
    intro id hm
    cases hm with
    | tup _ lv _ hlv hm' =>
      obtain ⟨i, hi, e⟩ := List.getElem_of_mem hlv
      have hv : vs[i]? = some (vs[i]'(by omega)) := Array.getElem?_eq_getElem (by omega)
      exact ih i lv _ (by rw [List.getElem?_eq_getElem hi, e]) hv id hm'
  | clo f l vs hl _ ih =>
    intro id hm
    cases hm with
    | clo _ _ lv _ hlv hm' =>
      obtain ⟨i, hi, e⟩ := List.getElem_of_mem hlv
      have hv : vs[i]? = some (vs[i]'(by omega)) := Array.getElem?_eq_getElem (by omega)
      exact ih i lv _ (by rw [List.getElem?_eq_getElem hi, e]) hv id hm'
  | ifc t lv v _ ih => intro id hm; cases hm with | ifc _ _ _ h => exact ih id h
  | _ => intro id hm; cases hm

theorem RepV.keep {w w' : World} {B : Nat} {X X' : Nat → Prop} {E E' : Env} {lv : LV} {v : Value} (h : RepV w B X E lv v) (hs : w.heap.size ≤ w'.heap.size)
    (hk : ∀ b, b < w.heap.size → ¬ X b → w'.heap[b]? = w.heap[b]?) (hx : ∀ b, X' b → X b ∨ w.heap.size ≤ b) (hE : ∀ id, Ment lv id → E' id = E id) : RepV w' B X' E' lv v := by
  induction h with
  | c lv v h => exact .c _ _ (h.keep hs hk hx (Nat.le_refl _))
  | vp id off b hb => exact .vp id off b (by rw [hE id (.vp id off)]; exact hb)
  | own id => rw [← hE id (.own id)]; exact .own id
  | ap id sz i off b hb hi =>
    have he := hE id (.ap id sz i off)
    rw [← he] at hb hi ⊢
    exact .ap id sz i off b hb hi
  | mp id b hb => exact .mp id b (by rw [hE id (.mp id)]; exact hb)
  | agg l vs hl _ ih => exact .agg l vs hl fun i lv v h1 h2 => ih i lv v h1 h2 fun id hm => hE id (.agg l lv id (List.mem_of_getElem? h1) hm)
  | tup l vs hl _ ih => exact .tup l vs hl fun i lv v h1 h2 => ih i lv v h1 h2 fun id hm => hE id (.tup l lv id (List.mem_of_getElem? h1) hm)
  | clo f l vs hl _ ih => exact .clo f l vs hl fun i lv v h1 h2 => ih i lv v h1 h2 fun id hm => hE id (.clo f l lv id (List.mem_of_getElem? h1) hm)
  | whn b lv v _ hn ih => exact .whn b lv v (fun hb => ih hb fun id hm => hE id (.whn b lv id hb hm)) hn
  | ifc t lv v _ ih => exact .ifc t lv v (ih fun id hm => hE id (.ifc t lv id hm))

/-- The claims of a state: of slots, of blocks by name; the names that a claim may mention. -/
structure FS where
  slot : Nat → Option LV
  blk : Nat → Option BC
  used : Nat → Bool

/-- What lies around a call: blocks that stand as they are; those of them that belong to the callers; what is known of the names from 900000 on. -/
structure Fr where
  blk : Nat → Option Obj
  own : Nat → Prop
  pin : Nat → Option EI
  low : ∀ i, i < 900000 → pin i = none
  sz : Nat

def Own (σ : FS) (E : Env) (X0 : Fr) : Nat → Prop := fun b => X0.own b ∨ ∃ i, σ.blk i ≠ none ∧ (E i).b = some b

def BlkOk (w : World) (B : Nat) (X : Nat → Prop) (E : Env) (i : Nat) : BC → Prop
  | .var cells => ∃ b vs T, (E i).b = some b ∧ B ≤ b ∧ w.heap[b]? = some (.cells vs T (0, 0)) ∧ vs.size = cells.length ∧ ∀ (j : Nat) lv v, cells[j]? = some lv → vs[j]? = some v → RepV w B X E lv v
  | .mp kd m => ∃ b es ck, (E i).b = some b ∧ B ≤ b ∧ w.heap[b]? = some (.map es ck) ∧ MapOk kd m es
  | .arr sz n row => (E i).n = n ∧
      (((E i).b = none ∧ (E i).val = .slice none 0 0 ∧ n = 0) ∨
       ∃ b cap vs T, (E i).b = some b ∧ (E i).val = .slice (some ⟨b, (E i).off, none⟩) n cap ∧ B ≤ b ∧ w.heap[b]? = some (.cells vs T (0, 0)) ∧ n ≤ cap ∧ cap ≤ maxLen ∧ (E i).off + cap * sz ≤ vs.size ∧
         ∀ k, k < n → (row k).length = sz ∧ (∀ lv ∈ row k, isOne lv = true) ∧ ∀ (j : Nat) lv v, (row k)[j]? = some lv → vs[(E i).off + k * sz + j]? = some v → RepC w B X lv v)

/-- The powers of ten that the package variable 1 holds. -/
def gPow : List Int := (List.range 20).map fun i => ((10 ^ i : Nat) : Int)
/-- The words that the package variable 0 holds. -/
def gWords : List (List UInt8) := [[97, 110, 121], [109, 101, 110], [119, 111, 109, 101, 110], [111, 110, 108, 121, 32, 109, 101, 110], [111, 110, 108, 121, 32, 119, 111, 109, 101, 110]]
/-- What is known of the world in which a call begins: the package variables 1 (powers of ten), 2 (a number), 3 (an error) and 0 (words). -/
def GH (w : World) : Prop := (4 ≤ w.heap.size ∧ ∀ j, j < 5 → w.cell? ⟨0, j, none⟩ = some (.string ⟨(gWords.getD j []).toArray⟩)) ∧ (∃ t f, w.heap[1]? = some (.cells (gPow.map fun z => Value.int .u64 z).toArray t f)) ∧ (∃ m, w.cell? ⟨2, 0, none⟩ = some (.int .i64 m)) ∧ ∃ te pe, w.cell? ⟨3, 0, none⟩ = some (.iface te pe)
theorem GH.below {w w' : World} (h : GH w) (hb : Below w.heap.size w w') : GH w' := by
  obtain ⟨⟨h0, h4⟩, ⟨t, f, h1⟩, ⟨m, h2⟩, te, pe, h3⟩ := h
  refine ⟨⟨Nat.le_trans h0 hb.size, fun j hj => ?_⟩, ⟨t, f, by rw [hb.block 1 (by omega)]; exact h1⟩, ⟨m, ?_⟩, te, pe, ?_⟩
  · rw [World.cell?_of_block (w := w) (hb.block 0 (by omega))]; exact h4 j hj
  · rw [World.cell?_of_block (w := w) (hb.block 2 (by omega))]; exact h2
  · rw [World.cell?_of_block (w := w) (hb.block 3 (by omega))]; exact h3
/-- The cells of a package variable, as far as they are known. -/
def gRow : Nat → Option (List LV)
  | 0 => some (gWords.map LV.str)
  | _ + 1 => none
theorem GH.row {w : World} (h : GH w) {g : Nat} {row : List LV} (hr : gRow g = some row) : g < w.heap.size ∧ ∃ cv : Nat → Value, (∀ j, j < row.length → w.cell? ⟨g, j, none⟩ = some (cv j)) ∧ ∀ (w' : World) (B : Nat) (X : Nat → Prop) (j : Nat) lv, row[j]? = some lv → RepC w' B X lv (cv j) := by
  cases g with
  | succ g => cases hr
  | zero =>
    cases hr
    obtain ⟨⟨h0, h4⟩, _⟩ := h
    refine ⟨by omega, fun j => .string ⟨(gWords.getD j []).toArray⟩, fun j hj => h4 j (by simpa [gWords] using hj), fun w' B X j lv hj => ?_⟩
    rw [List.getElem?_map] at hj
    obtain ⟨s, hs, rfl⟩ := Option.map_eq_some_iff.1 hj
    have e : gWords.getD j [] = s := by rw [List.getD_eq_getElem?_getD, hs]; rfl
    show RepC w' B X (.str s) (.string ⟨(gWords.getD j []).toArray⟩)
    rw [e]
    exact .str s
/-- A frame and a world meet the claims of a state. -/
structure Sat (N : Nat) (w0 : World) (X0 : Fr) (σ : FS) (E : Env) (a : Act) (w : World) : Prop where
  size : a.tmps.size = N
  defers : a.defers = []
  below : Below w0.heap.size w0 w
  slots : ∀ t lv, σ.slot t = some lv → RepV w w0.heap.size (Own σ E X0) E lv (a.tmps.getD t undef)
  blks : ∀ i c, σ.blk i = some c → BlkOk w w0.heap.size (Own σ E X0) E i c
  inj : ∀ i j b, σ.blk i ≠ none → σ.blk j ≠ none → (E i).b = some b → (E j).b = some b → i = j
  live : ∀ i, σ.blk i ≠ none → σ.used i = true
  wfs : ∀ t lv id, σ.slot t = some lv → Ment lv id → σ.used id = true
  wfb : ∀ i cells lv id, σ.blk i = some (.var cells) → lv ∈ cells → Ment lv id → σ.used id = true
  base : ∀ b o, X0.blk b = some o → w.heap[b]? = some o ∧ ∀ i, σ.blk i ≠ none → (E i).b ≠ some b
  bown : ∀ b, X0.own b → ∃ o, X0.blk b = some o
  pin : ∀ i ei, X0.pin i = some ei → σ.blk i ≠ none → E i = ei
  pu : ∀ i, 900000 ≤ i → σ.used i = true
  szf : X0.sz ≤ w.heap.size
  gh : GH w0
  xge : ∀ b, X0.own b → w0.heap.size ≤ b

def FS.put (σ : FS) (d : Nat) (lv : LV) : FS := { σ with slot := fun t => if t = d then some lv else σ.slot t }
/-- Blocks are set (made, or written), others are given up. -/
def FS.setF (σ : FS) (K : Nat → Bool) (U : Nat → Option (BC × EI)) : FS :=
  { σ with blk := fun j => match U j with | some x => some x.1 | none => if K j = true then none else σ.blk j, used := fun j => (U j).isSome || σ.used j }
def Env.setF (E : Env) (U : Nat → Option (BC × EI)) : Env := fun j => match U j with | some x => x.2 | none => E j

theorem Sat.put {N : Nat} {w0 : World} {X0 : Fr} {σ : FS} {E : Env} {a : Act} {w : World} (h : Sat N w0 X0 σ E a w) {d : Nat} (hd : d < N) {lv : LV} {v : Value}
    (hr : RepV w w0.heap.size (Own σ E X0) E lv v) (hm : ∀ id, Ment lv id → σ.used id = true) : Sat N w0 X0 (σ.put d lv) E (a.put (some d) v) w where
  size := by simpa [Act.put] using h.size
  defers := h.defers
  below := h.below
  slots := by
    intro t x hx
    simp only [FS.put] at hx
    by_cases ht : t = d
    · subst ht
      simp only [if_true, Option.some.injEq] at hx
      subst hx
      have hs : t < a.tmps.size := by rw [h.size]; exact hd
      have e : (a.put (some t) v).tmps.getD t undef = v := by simp [Act.put, hs]
      rw [e]; exact hr
    · simp only [ht, if_false] at hx
      have e : (a.put (some d) v).tmps.getD t undef = a.tmps.getD t undef := by
        simp [Act.put, Array.getElem?_setIfInBounds_ne (Ne.symm ht)]
      rw [e]; exact h.slots t x hx
  blks := h.blks
  inj := h.inj
  live := h.live
  wfs := by
    intro t x id hx hmm
    simp only [FS.put] at hx
    by_cases ht : t = d
    · simp only [ht, if_true, Option.some.injEq] at hx; subst hx; exact hm id hmm
    · simp only [ht, if_false] at hx; exact h.wfs t x id hx hmm
  wfb := h.wfb
  base := h.base
  bown := h.bown
  pin := h.pin
  pu := h.pu
  szf := h.szf
  gh := h.gh
  xge := h.xge

theorem BlkOk.lt {w : World} {B : Nat} {X : Nat → Prop} {E : Env} {i b : Nat} {c : BC} (h : BlkOk w B X E i c) (hb : (E i).b = some b) : b < w.heap.size := by
  cases c with
  | var cells => obtain ⟨b', vs, T, g1, _, g3, _⟩ := h; rw [hb] at g1; injection g1 with g1; subst g1; exact (Array.getElem?_eq_some_iff.1 g3).1
  | mp kd m => obtain ⟨b', es, ck, g1, _, g3, _⟩ := h; rw [hb] at g1; injection g1 with g1; subst g1; exact (Array.getElem?_eq_some_iff.1 g3).1
  | arr sz n row =>
    rcases h.2 with ⟨g1, _⟩ | ⟨b', cap, vs, T, g1, _, _, g4, _⟩
    · rw [hb] at g1; cases g1
    · rw [hb] at g1; injection g1 with g1; subst g1; exact (Array.getElem?_eq_some_iff.1 g4).1

/-- The world grows, and is written at blocks of the call's own; the claims' other parts stand. -/
theorem Sat.setF {N : Nat} {w0 : World} {X0 : Fr} {σ : FS} {E : Env} {a : Act} {w w' : World} (h : Sat N w0 X0 σ E a w) (K : Nat → Bool) (U : Nat → Option (BC × EI))
    (hu : ∀ i x, U i = some x → σ.used i = false ∨ (x.2 = E i ∧ σ.blk i ≠ none))
    (hs : w.heap.size ≤ w'.heap.size)
    (hw : ∀ b, b < w.heap.size → (∀ j, (U j ≠ none ∨ K j = true) → σ.blk j ≠ none → (E j).b ≠ some b) → w'.heap[b]? = w.heap[b]?)
    (hown : ∀ i x b, U i = some x → x.2.b = some b → w.heap.size ≤ b ∨ ∃ j, (U j ≠ none ∨ K j = true) ∧ σ.blk j ≠ none ∧ (E j).b = some b)
    (huu : ∀ i j x y b, U i = some x → U j = some y → x.2.b = some b → y.2.b = some b → i = j)
    (hbelow : Below w0.heap.size w0 w')
    (hwf : ∀ i cells ei lv id, U i = some (.var cells, ei) → lv ∈ cells → Ment lv id → U id ≠ none ∨ σ.used id = true)
    (hok : ∀ i x, U i = some x → BlkOk w' w0.heap.size (Own (σ.setF K U) (E.setF U) X0) (E.setF U) i x.1) :
    Sat N w0 X0 (σ.setF K U) (E.setF U) a w' := by
  have hE : ∀ id, σ.used id = true → (E.setF U) id = E id := by
    intro id hid
    unfold Env.setF
    cases hU : U id with
    | none => rfl
    | some x =>
      rcases hu id x hU with h1 | h1
      · rw [h1] at hid; cases hid
      · exact h1.1
  have hlive : ∀ j, (σ.setF K U).blk j ≠ none → (∃ x, U j = some x) ∨ (U j = none ∧ K j = false ∧ σ.blk j ≠ none) := by
    intro j hj
    simp only [FS.setF] at hj
    cases hU : U j with
    | some x => exact .inl ⟨x, rfl⟩
    | none =>
      simp only [hU] at hj
      cases hK : K j with
      | true => simp [hK] at hj
      | false => simp only [hK, Bool.false_eq_true, if_false] at hj; exact .inr ⟨rfl, rfl, hj⟩
  have hEU : ∀ j x, U j = some x → (E.setF U) j = x.2 := fun j x hU => by simp [Env.setF, hU]
  have hx : ∀ b, Own (σ.setF K U) (E.setF U) X0 b → Own σ E X0 b ∨ w.heap.size ≤ b := by
    intro b hb
    rcases hb with hb | ⟨j, hj, hjb⟩
    · exact .inl (.inl hb)
    · rcases hlive j hj with ⟨x, hU⟩ | ⟨_, _, h1⟩
      · rw [hEU j x hU] at hjb
        rcases hown j x b hU hjb with h2 | ⟨k, _, h2, h3⟩
        · exact .inr h2
        · exact .inl (.inr ⟨k, h2, h3⟩)
      · rw [hE j (h.live j h1)] at hjb
        exact .inl (.inr ⟨j, h1, hjb⟩)
  have hk : ∀ b, b < w.heap.size → ¬ Own σ E X0 b → w'.heap[b]? = w.heap[b]? := by
    intro b hb hno
    exact hw b hb fun j _ hj hjb => hno (.inr ⟨j, hj, hjb⟩)
  have hlt : ∀ k b, σ.blk k ≠ none → (E k).b = some b → b < w.heap.size := fun k b hk hb => by
    obtain ⟨c, hc⟩ := Option.ne_none_iff_exists'.1 hk
    exact (h.blks k c hc).lt hb
  refine ⟨h.size, h.defers, hbelow, ?_, ?_, ?_, ?_, ?_, ?_, ?_, h.bown, ?_, fun i hi => by simp [FS.setF, h.pu i hi], Nat.le_trans h.szf hs, h.gh, h.xge⟩
  · intro t lv ht
    exact (h.slots t lv ht).keep hs hk hx fun id hm => hE id (h.wfs t lv id ht hm)
  · intro j c' hj
    cases hU : U j with
    | some x =>
      have : c' = x.1 := by simp only [FS.setF, hU, Option.some.injEq] at hj; exact hj.symm
      subst this
      exact hok j x hU
    | none =>
      have hj' : σ.blk j = some c' ∧ K j = false := by
        simp only [FS.setF, hU] at hj
        cases hK : K j with
        | true => simp [hK] at hj
        | false => simp only [hK, Bool.false_eq_true, if_false] at hj; exact ⟨hj, rfl⟩
      have hne : σ.blk j ≠ none := by rw [hj'.1]; simp
      have hEj := hE j (h.live j hne)
      have hb := h.blks j c' hj'.1
      have keepb : ∀ b, (E j).b = some b → b < w.heap.size → w'.heap[b]? = w.heap[b]? := by
        intro b hjb hlt'
        refine hw b hlt' fun k hk' hkn hkb => ?_
        have := h.inj k j b hkn hne hkb hjb
        subst this
        rcases hk' with h1 | h1
        · exact h1 hU
        · rw [hj'.2] at h1; cases h1
      cases c' with
      | var cells =>
        obtain ⟨b, vs, T, h1, h2, h3, h4, h5⟩ := hb
        have hlt' : b < w.heap.size := (Array.getElem?_eq_some_iff.1 h3).1
        refine ⟨b, vs, T, ?_, h2, by rw [keepb b h1 hlt']; exact h3, h4, fun m lv v hl hv => ?_⟩
        · rw [hEj]; exact h1
        · exact (h5 m lv v hl hv).keep hs hk hx fun id hm => hE id (h.wfb j cells lv id hj'.1 (List.mem_of_getElem? hl) hm)
      | mp kd m =>
        obtain ⟨b, es, ck, h1, h2, h3, h4⟩ := hb
        have hlt' : b < w.heap.size := (Array.getElem?_eq_some_iff.1 h3).1
        exact ⟨b, es, ck, by rw [hEj]; exact h1, h2, by rw [keepb b h1 hlt']; exact h3, h4⟩
      | arr sz n row =>
        obtain ⟨hn, hb⟩ := hb
        refine ⟨by rw [hEj]; exact hn, ?_⟩
        rw [hEj]
        rcases hb with hb | ⟨b, cap, vs, T, h1, h2, h3, h4, h5, h6, h7, h8⟩
        · exact .inl hb
        · have hlt' : b < w.heap.size := (Array.getElem?_eq_some_iff.1 h4).1
          refine .inr ⟨b, cap, vs, T, h1, h2, h3, by rw [keepb b h1 hlt']; exact h4, h5, h6, h7, fun k hk' => ⟨(h8 k hk').1, (h8 k hk').2.1, fun m lv v hl hv => ?_⟩⟩
          exact ((h8 k hk').2.2 m lv v hl hv).keep hs hk hx (Nat.le_refl _)
  · intro j k b hj hk' hjb hkb
    rcases hlive j hj with ⟨x, hU⟩ | ⟨hU, hK, h1⟩ <;> rcases hlive k hk' with ⟨y, hV⟩ | ⟨hV, hK', h2⟩
    · rw [hEU j x hU] at hjb
      rw [hEU k y hV] at hkb
      exact huu j k x y b hU hV hjb hkb
    · rw [hEU j x hU] at hjb
      rw [hE k (h.live k h2)] at hkb
      rcases hown j x b hU hjb with h3 | ⟨m, hm, h4, h5⟩
      · have := hlt k b h2 hkb; omega
      · have := h.inj m k b h4 h2 h5 hkb
        subst this
        rcases hm with h6 | h6
        · exact absurd hV h6
        · rw [hK'] at h6; cases h6
    · rw [hE j (h.live j h1)] at hjb
      rw [hEU k y hV] at hkb
      rcases hown k y b hV hkb with h3 | ⟨m, hm, h4, h5⟩
      · have := hlt j b h1 hjb; omega
      · have := h.inj m j b h4 h1 h5 hjb
        subst this
        rcases hm with h6 | h6
        · exact absurd hU h6
        · rw [hK] at h6; cases h6
    · rw [hE j (h.live j h1)] at hjb
      rw [hE k (h.live k h2)] at hkb
      exact h.inj j k b h1 h2 hjb hkb
  · intro j hj
    rcases hlive j hj with ⟨x, hU⟩ | ⟨_, _, h1⟩
    · simp [FS.setF, hU]
    · simp [FS.setF, h.live j h1]
  · intro t lv id ht hm
    simp [FS.setF, h.wfs t lv id ht hm]
  · intro j cells lv id hj hl hm
    cases hU : U j with
    | some x =>
      obtain ⟨c, ei⟩ := x
      simp only [FS.setF, hU, Option.some.injEq] at hj
      subst hj
      rcases hwf j cells ei lv id hU hl hm with h1 | h1
      · obtain ⟨y, hy⟩ := Option.ne_none_iff_exists'.1 h1
        simp [FS.setF, hy]
      · simp [FS.setF, h1]
    | none =>
      have hj' : σ.blk j = some (.var cells) := by
        simp only [FS.setF, hU] at hj
        cases hK : K j with
        | true => simp [hK] at hj
        | false => simpa only [hK, Bool.false_eq_true, if_false] using hj
      simp [FS.setF, h.wfb j cells lv id hj' hl hm]
  · intro b o hb
    obtain ⟨h1, h2⟩ := h.base b o hb
    have hbl : b < w.heap.size := (Array.getElem?_eq_some_iff.1 h1).1
    refine ⟨by rw [hw b hbl fun j _ hj => h2 j hj]; exact h1, fun i hi hib => ?_⟩
    rcases hlive i hi with ⟨x, hU⟩ | ⟨_, _, h3⟩
    · rw [hEU i x hU] at hib
      rcases hown i x b hU hib with h4 | ⟨k, _, h4, h5⟩
      · omega
      · exact h2 k h4 h5
    · rw [hE i (h.live i h3)] at hib
      exact h2 i h3 hib
  · intro i ei hi hb
    have h9 : 900000 ≤ i := by
      rcases Nat.lt_or_ge i 900000 with h | h
      · rw [X0.low i h] at hi; cases hi
      · exact h
    rw [hE i (h.pu i h9)]
    rcases hlive i hb with ⟨x, hU⟩ | ⟨_, _, h3⟩
    · rcases hu i x hU with h4 | ⟨_, h4⟩
      · rw [h.pu i h9] at h4; cases h4
      · exact h.pin i ei hi h4
    · exact h.pin i ei hi h3

theorem Sat.xlt {N : Nat} {w0 : World} {X0 : Fr} {σ : FS} {E : Env} {a : Act} {w : World} (h : Sat N w0 X0 σ E a w) {b : Nat} (hb : X0.own b) : b < w.heap.size := by
  obtain ⟨o, ho⟩ := h.bown b hb
  exact (Array.getElem?_eq_some_iff.1 (h.base b o ho).1).1
theorem Sat.xne {N : Nat} {w0 : World} {X0 : Fr} {σ : FS} {E : Env} {a : Act} {w : World} (h : Sat N w0 X0 σ E a w) {b : Nat} (hb : X0.own b) {i : Nat} (hi : σ.blk i ≠ none) : (E i).b ≠ some b := by
  obtain ⟨o, ho⟩ := h.bown b hb
  exact (h.base b o ho).2 i hi
/-- One block is set (made, or written); another one may be given up. -/
def one (i : Nat) (c : BC) (ei : EI) : Nat → Option (BC × EI) := fun j => if j = i then some (c, ei) else none
theorem one_some {i j : Nat} {c : BC} {ei : EI} {x : BC × EI} (h : one i c ei j = some x) : j = i ∧ x = (c, ei) := by
  unfold one at h
  by_cases e : j = i
  · simp only [e, if_true, Option.some.injEq] at h; exact ⟨e, h.symm⟩
  · simp [e] at h
theorem one_ne {i j : Nat} {c : BC} {ei : EI} : one i c ei j ≠ none ↔ j = i := by
  unfold one
  by_cases e : j = i <;> simp [e]

theorem Sat.set {N : Nat} {w0 : World} {X0 : Fr} {σ : FS} {E : Env} {a : Act} {w w' : World} (h : Sat N w0 X0 σ E a w) (K : Nat → Bool) (i : Nat) (c : BC) (ei : EI)
    (hi : σ.used i = false ∨ (ei = E i ∧ σ.blk i ≠ none))
    (hs : w.heap.size ≤ w'.heap.size)
    (hw : ∀ b, b < w.heap.size → (∀ j, (j = i ∨ K j = true) → σ.blk j ≠ none → (E j).b ≠ some b) → w'.heap[b]? = w.heap[b]?)
    (hown : ∀ b, ei.b = some b → w.heap.size ≤ b ∨ ∃ j, (j = i ∨ K j = true) ∧ σ.blk j ≠ none ∧ (E j).b = some b)
    (hbelow : Below w0.heap.size w0 w')
    (hwf : ∀ cells lv id, c = .var cells → lv ∈ cells → Ment lv id → id = i ∨ σ.used id = true)
    (hok : BlkOk w' w0.heap.size (Own (σ.setF K (one i c ei)) (E.setF (one i c ei)) X0) (E.setF (one i c ei)) i c) :
    Sat N w0 X0 (σ.setF K (one i c ei)) (E.setF (one i c ei)) a w' := by
  refine h.setF K (one i c ei) ?_ hs ?_ ?_ ?_ hbelow ?_ ?_
  · intro j x hj
    obtain ⟨rfl, rfl⟩ := one_some hj
    exact hi
  · intro b hb hh
    exact hw b hb fun j hj => hh j (hj.imp one_ne.2 id)
  · intro j x b hj hb
    obtain ⟨rfl, rfl⟩ := one_some hj
    rcases hown b hb with h1 | ⟨k, hk, h2⟩
    · exact .inl h1
    · exact .inr ⟨k, hk.imp one_ne.2 id, h2⟩
  · intro j k x y b hj hk _ _
    exact (one_some hj).1.trans (one_some hk).1.symm
  · intro j cells ei' lv id hj hl hm
    obtain ⟨rfl, e⟩ := one_some hj
    cases e
    exact (hwf cells lv id rfl hl hm).imp one_ne.2 (·)
  · intro j x hj
    obtain ⟨rfl, rfl⟩ := one_some hj
    exact hok

/-- The world grows, nothing that was there turns. -/
theorem Sat.grow {N : Nat} {w0 : World} {X0 : Fr} {σ : FS} {E : Env} {a : Act} {w w' : World} (h : Sat N w0 X0 σ E a w) (hb : Below w.heap.size w w') : Sat N w0 X0 σ E a w' := by
  have hsz : w0.heap.size ≤ w.heap.size := h.below.size
  have hk : ∀ b, b < w.heap.size → ¬ Own σ E X0 b → w'.heap[b]? = w.heap[b]? := fun b hlt _ => hb.block b hlt
  refine ⟨h.size, h.defers, h.below.trans (hb.mono hsz), fun t lv ht => (h.slots t lv ht).keep hb.size hk (fun b hx => .inl hx) (fun _ _ => rfl), ?_, h.inj, h.live, h.wfs, h.wfb, fun b o hb' => ⟨by rw [hb.block b (Array.getElem?_eq_some_iff.1 (h.base b o hb').1).1]; exact (h.base b o hb').1, (h.base b o hb').2⟩, h.bown, h.pin, h.pu, Nat.le_trans h.szf hb.size, h.gh, h.xge⟩
  intro i c hi
  have hbk := h.blks i c hi
  cases c with
  | var cells =>
    obtain ⟨b, vs, T, h1, h2, h3, h4, h5⟩ := hbk
    have hlt : b < w.heap.size := (Array.getElem?_eq_some_iff.1 h3).1
    exact ⟨b, vs, T, h1, h2, by rw [hb.block b hlt]; exact h3, h4, fun m lv v hl hv => (h5 m lv v hl hv).keep hb.size hk (fun b hx => .inl hx) (fun _ _ => rfl)⟩
  | mp kd m =>
    obtain ⟨b, es, ck, h1, h2, h3, h4⟩ := hbk
    have hlt : b < w.heap.size := (Array.getElem?_eq_some_iff.1 h3).1
    exact ⟨b, es, ck, h1, h2, by rw [hb.block b hlt]; exact h3, h4⟩
  | arr sz n row =>
    obtain ⟨hn, hbk⟩ := hbk
    refine ⟨hn, ?_⟩
    rcases hbk with hbk | ⟨b, cap, vs, T, h1, h2, h3, h4, h5, h6, h7, h8⟩
    · exact .inl hbk
    · have hlt : b < w.heap.size := (Array.getElem?_eq_some_iff.1 h4).1
      exact .inr ⟨b, cap, vs, T, h1, h2, h3, by rw [hb.block b hlt]; exact h4, h5, h6, h7, fun k hk' => ⟨(h8 k hk').1, (h8 k hk').2.1, fun m lv v hl hv => ((h8 k hk').2.2 m lv v hl hv).keep hb.size hk (fun b hx => .inl hx) (Nat.le_refl _)⟩⟩

/-- The same in terms of what blocks hold alone. -/
def FS.upd (σ : FS) (K : Nat → Bool) (ub : Nat → Option BC) : FS :=
  { σ with blk := fun j => match ub j with | some c => some c | none => if K j = true then none else σ.blk j, used := fun j => (ub j).isSome || σ.used j }
theorem FS.setF_eq (σ : FS) (K : Nat → Bool) (U : Nat → Option (BC × EI)) : σ.setF K U = σ.upd K fun j => (U j).map (·.1) := by
  unfold FS.setF FS.upd
  congr 1
  · funext j; cases h : U j <;> simp [h]
  · funext j; cases h : U j <;> simp [h]
def oneB (i : Nat) (c : BC) : Nat → Option BC := fun j => if j = i then some c else none
theorem one_map (i : Nat) (c : BC) (ei : EI) : (fun j => (one i c ei j).map (·.1)) = oneB i c := by
  funext j; unfold one oneB; by_cases e : j = i <;> simp [e]
def noK : Nat → Bool := fun _ => false

section new
variable {N : Nat} {w0 : World} {X0 : Fr} {σ : FS} {E : Env} {a : Act} {w : World}
theorem Sat.newVar (h : Sat N w0 X0 σ E a w) {i : Nat} (hi : σ.used i = false) (vs : Array Value) (T : TypeId) (cells : List LV) (hl : vs.size = cells.length)
    (hr : ∀ (j : Nat) lv v, cells[j]? = some lv → vs[j]? = some v → RepV w w0.heap.size (Own σ E X0) E lv v) (hm : ∀ lv ∈ cells, ∀ id, Ment lv id → σ.used id = true) :
    ∃ E', (E' i).b = some w.heap.size ∧ Sat N w0 X0 (σ.upd noK (oneB i (.var cells))) E' a (w.alloc (.cells vs T)) := by
  have hbi : σ.blk i = none := by
    cases hb : σ.blk i with
    | none => rfl
    | some c => have := h.live i (by rw [hb]; simp); rw [hi] at this; cases this
  have hh : ∀ b, b < w.heap.size → (w.alloc (.cells vs T)).heap[b]? = w.heap[b]? := fun b hb => Below.heap_alloc _ _ _ hb
  refine ⟨E.setF (one i (.var cells) ⟨some w.heap.size, 0, none, 0, 0, 0⟩), by simp [Env.setF, one], ?_⟩
  rw [← one_map i (.var cells) ⟨some w.heap.size, 0, none, 0, 0, 0⟩, ← FS.setF_eq]
  refine h.set noK i (.var cells) _ (.inl hi) (by simp) (fun b hb _ => hh b hb) (fun b hb => .inl (by simp at hb; omega)) (h.below.alloc h.below.size _) (fun c lv id hc hlv hmm => ?_) ?_
  · cases hc; exact .inr (hm lv hlv id hmm)
  · refine ⟨w.heap.size, vs, T, by simp [Env.setF, one], h.below.size, heap_alloc_new w _, hl, fun j lv v hj hv => ?_⟩
    refine (hr j lv v hj hv).keep (by simp) (fun b hb _ => hh b hb) (fun b hb => ?_) fun id hmm => ?_
    · rcases hb with hb | ⟨k, hk, hkb⟩
      · exact .inl (.inl hb)
      · by_cases e : k = i
        · subst e; simp [Env.setF, one] at hkb; exact .inr (by omega)
        · refine .inl (.inr ⟨k, ?_, ?_⟩)
          · simpa [FS.setF, one, e, noK] using hk
          · simpa [Env.setF, one, e] using hkb
    · have hu := hm lv (List.mem_of_getElem? hj) id hmm
      have e : id ≠ i := by rintro rfl; rw [hi] at hu; cases hu
      simp [Env.setF, one, e]

theorem Sat.newArr (h : Sat N w0 X0 σ E a w) {i : Nat} (hi : σ.used i = false) (vs : Array Value) (T : TypeId) (sz n cap : Nat) (row : Nat → List LV) (hn : n ≤ cap) (hcap : cap ≤ maxLen) (hl : cap * sz ≤ vs.size)
    (hsz : ∀ k, k < n → (row k).length = sz) (ho : ∀ k, k < n → ∀ lv ∈ row k, isOne lv = true)
    (hr : ∀ k, k < n → ∀ (j : Nat) lv v, (row k)[j]? = some lv → vs[k * sz + j]? = some v → RepC w w0.heap.size (Own σ E X0) lv v) :
    ∃ E', (E' i).b = some w.heap.size ∧ (E' i).val = .slice (some ⟨w.heap.size, 0, none⟩) n cap ∧ Sat N w0 X0 (σ.upd noK (oneB i (.arr sz n row))) E' a (w.alloc (.cells vs T)) := by
  have hbi : σ.blk i = none := by
    cases hb : σ.blk i with
    | none => rfl
    | some c => have := h.live i (by rw [hb]; simp); rw [hi] at this; cases this
  have hh : ∀ b, b < w.heap.size → (w.alloc (.cells vs T)).heap[b]? = w.heap[b]? := fun b hb => Below.heap_alloc _ _ _ hb
  refine ⟨E.setF (one i (.arr sz n row) ⟨some w.heap.size, 0, some ⟨w.heap.size, 0, none⟩, n, cap, n⟩), by simp [Env.setF, one], by simp [Env.setF, one, EI.val], ?_⟩
  rw [← one_map i (.arr sz n row) ⟨some w.heap.size, 0, some ⟨w.heap.size, 0, none⟩, n, cap, n⟩, ← FS.setF_eq]
  refine h.set noK i (.arr sz n row) _ (.inl hi) (by simp) (fun b hb _ => hh b hb) (fun b hb => .inl (by simp at hb; omega)) (h.below.alloc h.below.size _) (fun c lv id hc hlv hmm => ?_) ?_
  · cases hc
  · refine ⟨by simp [Env.setF, one], .inr ⟨w.heap.size, cap, vs, T, by simp [Env.setF, one], by simp [Env.setF, one, EI.val], h.below.size, heap_alloc_new w _, hn, hcap, by simpa [Env.setF, one] using hl, fun k hk => ⟨hsz k hk, ho k hk, fun j lv v hj hv => ?_⟩⟩⟩
    have hv' : vs[k * sz + j]? = some v := by simpa [Env.setF, one] using hv
    refine (hr k hk j lv v hj hv').keep (by simp) (fun b hb _ => hh b hb) (fun b hb => ?_) (Nat.le_refl _)
    rcases hb with hb | ⟨k', hk', hkb⟩
    · exact .inl (.inl hb)
    · by_cases e : k' = i
      · subst e; simp [Env.setF, one] at hkb; exact .inr (by omega)
      · refine .inl (.inr ⟨k', ?_, ?_⟩)
        · simpa [FS.setF, one, e, noK] using hk'
        · simpa [Env.setF, one, e] using hkb

theorem Sat.newMap (h : Sat N w0 X0 σ E a w) {i : Nat} (hi : σ.used i = false) (kd : KD) (m : MV) (es : Array MapEntry) (ck : Nat) (hm : MapOk kd m es) :
    ∃ E', (E' i).b = some w.heap.size ∧ Sat N w0 X0 (σ.upd noK (oneB i (.mp kd m))) E' a (w.alloc (.map es ck)) := by
  have hh : ∀ b, b < w.heap.size → (w.alloc (.map es ck)).heap[b]? = w.heap[b]? := fun b hb => Below.heap_alloc _ _ _ hb
  refine ⟨E.setF (one i (.mp kd m) ⟨some w.heap.size, 0, none, 0, 0, 0⟩), by simp [Env.setF, one], ?_⟩
  rw [← one_map i (.mp kd m) ⟨some w.heap.size, 0, none, 0, 0, 0⟩, ← FS.setF_eq]
  refine h.set noK i (.mp kd m) _ (.inl hi) (by simp) (fun b hb _ => hh b hb) (fun b hb => .inl (by simp at hb; omega)) (h.below.alloc h.below.size _) (fun c lv id hc hlv hmm => by cases hc) ?_
  exact ⟨w.heap.size, es, ck, by simp [Env.setF, one], h.below.size, heap_alloc_new w _, hm⟩
end new
end Go.Lite
