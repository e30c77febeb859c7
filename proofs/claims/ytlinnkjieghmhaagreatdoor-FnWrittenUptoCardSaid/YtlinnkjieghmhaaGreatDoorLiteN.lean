/- Maps: what the operations on them do, in terms of what a map holds by key. Conditions: none; over any program. -/
import Derived.Test.YtlinnkjieghmhaaGreatDoorLiteA
import Derived.MapKept
set_option linter.unusedVariables false
set_option linter.unusedSimpArgs false
namespace Go.Lite
open Go Go.RowKit

def intTy (P : Program) (T : TypeId) : Bool := match P.underlying T with
  | some (.int .i64)=>true
  | _=>false
def kdOk (P : Program) (K : TypeId) (kd : KD) : Bool := match kd, P.underlying K with
  | .str,some .string=>true
  | .int k,some (.int k')=>decide (k=k')
  | .pair, some (.struct fs) => match fs.toList with
    | [f, g] => intTy P f.type && (intTy P g.type && (Nat.beq f.offset 0 && (Nat.beq g.offset 1 && (f.name != "_" && (g.name != "_" && !P.stoodInHeld K)))))
    | _=>false
  | _,_=>false

section
variable {P:Program} {K:TypeId} {kd:KD} {w:World}

theorem zma {v:Value} {k:KV} (h:KD.str.key v=some k):∃ s,v=.string s∧k=.s s.data.toList:=by
 cases v<;>simp [KD.key] at h
 exact ⟨_,rfl,h.symm⟩
theorem zmb {i:IntKind} {v:Value} {k:KV} (h:(KD.int i).key v=some k):∃ n,v=.int i n∧k=.i n:=by
 cases v<;>simp [KD.key] at h
 rename_i i' n
 by_cases e:i=i'
 ·subst e;simp at h;exact ⟨_,rfl,h.symm⟩
 ·simp [e] at h
theorem zjc {v:Value} {k:KV} (h:KD.pair.key v=some k):∃ a b,v=Value.agg #[Value.int IntKind.i64 a,Value.int IntKind.i64 b]∧k=.p a b:=by
 cases v<;>simp only [KD.key] at h<;>try (cases h;done)
 split at h
 ·rename_i vs _ a b hvs
  cases h
  refine ⟨a,b,?_,rfl⟩
  have e:vs=#[Value.int IntKind.i64 a,Value.int IntKind.i64 b]:=by
   rw [← Array.toList_inj];simpa using hvs
  rw [e]
 ·cases h

theorem zz1 {v v':Value} {k:KV} (h:kd.key v=some k) (h':kd.key v'=some k):v=v':=by
 cases kd with
 | str =>
  obtain ⟨s,rfl,rfl⟩:=zma h
  obtain ⟨s',rfl,e⟩:=zma h'
  cases s;cases s'
  simp only [KV.s.injEq] at e
  rename_i a b
  have:a=b:=by rw [← Array.toList_inj];exact e
  rw [this]
 | int i =>
  obtain ⟨n,rfl,rfl⟩:=zmb h
  obtain ⟨n',rfl,e⟩:=zmb h'
  cases e;rfl
 | pair =>
  obtain ⟨a,b,rfl,rfl⟩:=zjc h
  obtain ⟨a',b',rfl,e⟩:=zjc h'
  cases e;rfl

theorem zqx {T:TypeId} (h:intTy P T=true):P.underlying T=some (.int .i64):=by
 unfold intTy at h
 split at h
 ·assumption
 ·cases h

theorem z3e (h:kdOk P K .str=true):P.underlying K=some .string:=by
 unfold kdOk at h
 split at h<;>simp_all
theorem z3f {i:IntKind} (h:kdOk P K (.int i)=true):P.underlying K=some (.int i):=by
 unfold kdOk at h
 split at h<;>simp_all
theorem zuz (h : kdOk P K .pair = true) : ∃ f g : Field, P.underlying K = some (.struct #[f, g]) ∧ P.underlying f.type = some (.int .i64) ∧ P.underlying g.type = some (.int .i64) ∧ f.offset = 0 ∧ g.offset = 1 ∧ f.name ≠ "_" ∧ g.name ≠ "_" ∧ P.stoodInHeld K = false := by
 unfold kdOk at h
 split at h
 ·rename_i e _;cases e
 ·rename_i e _;cases e
 ·rename_i fs hu hk
  split at h
  ·rename_i f g hfs
   simp only [Bool.and_eq_true,bne_iff_ne,ne_eq,Bool.not_eq_true'] at h
   obtain ⟨h1,h2,h3,h4,h5,h6,h7⟩:=h
   have e:fs=#[f,g]:=by rw [← Array.toList_inj];simpa using hfs
   subst e
   exact ⟨f,g,hk,zqx h1,zqx h2,Nat.eq_of_beq_eq_true h3,Nat.eq_of_beq_eq_true h4,h5,h6,h7⟩
  ·cases h
 ·cases h

theorem zz7 {T:TypeId} (h:P.underlying T=some (.int .i64)) (w:World):(isAgg T).run P w=.ok false w:=by
 simp [isAgg,run_underlying h]
theorem zni {T:TypeId} (h:P.underlying T=some (.int .i64)) {cs:Array Value} {i:Nat} {v:Value} (hv:cs[i]?=some v) (w:World):(part T cs i).run P w=.ok v w:=by
 simp [part,zz7 h,hv,Result.andThen]

theorem zkr (h:kdOk P K kd=true) {v:Value} {k:KV} (hk:kd.key v=some k) (e:Bool) (n:Nat):(Instr.checkKey e (n+2) K v).run P w=.ok () w:=by
 cases kd with
 | str=>obtain ⟨s,rfl,_⟩:=zma hk;exact MapKept.run_checkKey (z3e h) (by simp [MapKept.IsKey]) e (n+1)
 | int i=>obtain ⟨m,rfl,_⟩:=zmb hk;exact MapKept.run_checkKey (z3f h) (by simp [MapKept.IsKey]) e (n+1)
 | pair =>
  obtain ⟨a,b,rfl,_⟩:=zjc hk
  obtain ⟨f,g,hu,h1,h2,h3,h4,h5,h6,h7⟩:=zuz h
  rw [Instr.checkKey]
  simp only [Sem.run_bind,run_underlying hu,Result.andThen_ok]
  rw [← Array.forIn_toList]
  have c1:(Instr.checkKey e (n+1) f.type (Value.int IntKind.i64 a)).run P w=.ok () w:=MapKept.run_checkKey h1 (by simp [MapKept.IsKey]) e n
  have c2:(Instr.checkKey e (n+1) g.type (Value.int IntKind.i64 b)).run P w=.ok () w:=MapKept.run_checkKey h2 (by simp [MapKept.IsKey]) e n
  have p1:=zni h1 (cs:=#[Value.int IntKind.i64 a,Value.int IntKind.i64 b]) (i:=f.offset) (v:=Value.int IntKind.i64 a) (by rw [h3];rfl) w
  have p2:=zni h2 (cs:=#[Value.int IntKind.i64 a,Value.int IntKind.i64 b]) (i:=g.offset) (v:=Value.int IntKind.i64 b) (by rw [h4];rfl) w
  simp only [List.forIn_cons,List.forIn_nil,Sem.run_bind,h5,h6,ne_eq,not_false_eq_true,if_true,Result.andThen_ok,p1,p2,c1,c2,Sem.run_pure]

theorem zty {T:TypeId} (h:P.underlying T=some (.int .i64)) (d:Nat) (a b:Int):(Op.equalIn (d+1) T (Value.int IntKind.i64 a) (Value.int IntKind.i64 b)).run P w=.ok (a==b) w:=by
 simp [Op.equalIn,run_underlying h]

theorem zpv (h:kdOk P K .pair=true) (a b a' b':Int):(Op.equal K (Value.agg #[Value.int IntKind.i64 a,Value.int IntKind.i64 b]) (Value.agg #[Value.int IntKind.i64 a',Value.int IntKind.i64 b'])).run P w=.ok (decide (a=a'∧b=b')) w:=by
 obtain ⟨f,g,hu,h1,h2,h3,h4,h5,h6,h7⟩:=zuz h
 have p1:=fun x y=>zni h1 (cs:=#[Value.int IntKind.i64 x,Value.int IntKind.i64 y]) (i:=f.offset) (v:=Value.int IntKind.i64 x) (by rw [h3];rfl) w
 have p2:=fun x y=>zni h2 (cs:=#[Value.int IntKind.i64 x,Value.int IntKind.i64 y]) (i:=g.offset) (v:=Value.int IntKind.i64 y) (by rw [h4];rfl) w
 have hm:Op.maxDepth=9998+1+1:=rfl
 rw [Op.equal,hm,Op.equalIn]
 simp only [Sem.run_bind,run_underlying hu,Result.andThen_ok,run_program,h7,Bool.false_eq_true,if_false]
 rw [← Array.forIn_toList]
 simp only [List.forIn_cons,List.forIn_nil,Sem.run_bind,h5,h6,ne_eq,not_false_eq_true,if_true,Result.andThen_ok,p1,zty h1]
 by_cases ha:a=a'<;>by_cases hb:b=b'<;>simp [ha,hb,p2,zty h2]

theorem zmi (h : kdOk P K kd = true) {v : Value} {k : KV} (hk : kd.key v = some k) {es : List MapEntry} (hes : ∀ e ∈ es, (kd.key e.key).isSome = true) :
    ∃ r, (Instr.findKey K v es).run P w = .ok r w ∧ r.map (·.2) = findM kd es k ∧ ∀ i x, r = some (i, x) → ∃ e, es[i]? = some e ∧ kd.key e.key = some k ∧ ∀ j e', j < i → es[j]? = some e' → kd.key e'.key ≠ some k := by
 have now : ∀ d : TypeDesc, P.underlying K = some d → MapKept.IsKey d v → (∀ e ∈ es, MapKept.IsKey d e.key) → ∃ r, (Instr.findKey K v es).run P w = .ok r w ∧ r.map (·.2) = findM kd es k ∧ ∀ i x, r = some (i, x) → ∃ e, es[i]? = some e ∧ kd.key e.key = some k ∧ ∀ j e', j < i → es[j]? = some e' → kd.key e'.key ≠ some k := by
  intro d hd h1 h2
  have key : ∀ (l : List MapEntry) (i : Nat), (∀ e ∈ l, MapKept.IsKey d e.key) → ∃ r, Instr.findNow d v l i = some r ∧ r.map (·.2) = findM kd l k ∧ ∀ j x, r = some (j, x) → i ≤ j ∧ ∃ e, l[j - i]? = some e ∧ kd.key e.key = some k ∧ ∀ m e', m < j - i → l[m]? = some e' → kd.key e'.key ≠ some k := by
   intro l
   induction l with
   | nil=>intro i _;exact ⟨none,rfl,rfl,fun j x hj=>by cases hj⟩
   | cons e l ih =>
    intro i hl
    obtain ⟨r,hr,hiff⟩:=MapKept.sameNow_of_keys h1 (hl e (.head _))
    cases r with
    | true =>
     have e1:kd.key e.key=some k:=by rw [← hiff.1 rfl];exact hk
     refine ⟨some (i,e.val),by simp [Instr.findNow,hr],by simp [findM,e1],fun j x hj=>?_⟩
     cases hj
     exact ⟨Nat.le_refl _,e,by simp,e1,fun m e' hm=>by omega⟩
    | false =>
     have hne:kd.key e.key≠some k:=fun q=>by
      have:=hiff.2 (zz1 hk q)
      cases this
     obtain ⟨r,g1,g2,g3⟩:=ih (i+1) fun x hx=>hl x (.tail _ hx)
     refine ⟨r,by simp [Instr.findNow,hr,g1],by simp [findM,hne,g2],fun j x hj=>?_⟩
     obtain ⟨q1,e',q2,q3,q4⟩:=g3 j x hj
     refine ⟨om,e',by rw [show j - i=(j - (i+1))+1 by omega];simpa using q2,q3,fun m e'' hm he=>?_⟩
     cases m with
     | zero=>simp at he;subst he;exact hne
     | succ m=>exact q4 m e'' om (by simpa using he)
  obtain ⟨r,g1,g2,g3⟩:=key es 0 h2
  refine ⟨r,MapKept.run_findKey hd g1,g2,fun i x hi=>?_⟩
  obtain ⟨_,e,q1,q2,q3⟩:=g3 i x hi
  exact ⟨e,by simpa using q1,q2,fun j e' hj=>q3 j e' om⟩
 cases kd with
 | str =>
  refine now _ (z3e h) ?_ fun e he=>?_
  ·obtain ⟨s,rfl,_⟩:=zma hk;simp [MapKept.IsKey]
  ·obtain ⟨k',hk'⟩:=Option.isSome_iff_exists.1 (hes e he)
   obtain ⟨s,e1,_⟩:=zma hk';rw [e1];simp [MapKept.IsKey]
 | int i =>
  refine now _ (z3f h) ?_ fun e he=>?_
  ·obtain ⟨s,rfl,_⟩:=zmb hk;simp [MapKept.IsKey]
  ·obtain ⟨k',hk'⟩:=Option.isSome_iff_exists.1 (hes e he)
   obtain ⟨s,e1,_⟩:=zmb hk';rw [e1];simp [MapKept.IsKey]
 | pair =>
  obtain ⟨a,b,rfl,rfl⟩:=zjc hk
  obtain ⟨f,g,hu,_⟩:=zuz h
  have key : ∀ (l : List MapEntry) (i : Nat), (∀ e ∈ l, (KD.pair.key e.key).isSome = true) → ∃ r, (Instr.findAsking K (Value.agg #[Value.int IntKind.i64 a, Value.int IntKind.i64 b]) l i).run P w = .ok r w ∧ r.map (·.2) = findM .pair l (.p a b) ∧
      ∀ j x,r=some (j,x)→i≤j∧∃ e,l[j - i]?=some e∧KD.pair.key e.key=some (.p a b)∧∀ m e',m<j - i→l[m]?=some e'→KD.pair.key e'.key≠some (.p a b):=by
   intro l
   induction l with
   | nil=>intro i _;exact ⟨none,rfl,rfl,fun j x hj=>by cases hj⟩
   | cons e l ih =>
    intro i hl
    obtain ⟨k',hk'⟩:=Option.isSome_iff_exists.1 (hl e (.head _))
    obtain ⟨a',b',e1,rfl⟩:=zjc hk'
    rw [Instr.findAsking,Sem.run_bind,e1,zpv h,Result.andThen_ok]
    by_cases hc:a=a'∧b=b'
    ·obtain ⟨rfl,rfl⟩:=hc
     refine ⟨some (i,e.val),by simp,by simp [findM,hk'],fun j x hj=>?_⟩
     cases hj
     exact ⟨Nat.le_refl _,e,by simp,hk',fun m e' hm=>by omega⟩
    ·have hne:KD.pair.key e.key≠some (.p a b):=fun q=>by
      rw [hk'] at q
      simp only [Option.some.injEq,KV.p.injEq] at q
      exact hc ⟨q.1.symm,q.2.symm⟩
     obtain ⟨r,g1,g2,g3⟩:=ih (i+1) fun x hx=>hl x (.tail _ hx)
     refine ⟨r,by simp [hc,g1],by rw [findM,if_neg hne];exact g2,fun j x hj=>?_⟩
     obtain ⟨q1,e',q2,q3,q4⟩:=g3 j x hj
     refine ⟨om,e',by rw [show j - i=(j - (i+1))+1 by omega];simpa using q2,q3,fun m e'' hm he=>?_⟩
     cases m with
     | zero=>simp at he;subst he;exact hne
     | succ m=>exact q4 m e'' om (by simpa using he)
  obtain ⟨r,g1,g2,g3⟩:=key es 0 hes
  have hnow:Instr.findNow (TypeDesc.struct #[f,g]) (Value.agg #[Value.int IntKind.i64 a,Value.int IntKind.i64 b]) es 0=none∨es=[]:=by
   cases es with
   | nil=>exact .inr rfl
   | cons e l=>left;simp [Instr.findNow,Instr.sameNow]
  rcases hnow with hn | rfl
  ·refine ⟨r,by simp [Instr.findKey,run_underlying hu,Result.andThen,hn,g1],g2,fun i x hi=>?_⟩
   obtain ⟨_,e,q1,q2,q3⟩:=g3 i x hi
   exact ⟨e,by simpa using q1,q2,fun j e' hj=>q3 j e' om⟩
  ·exact ⟨none,by simp [Instr.findKey,run_underlying hu,Result.andThen,Instr.findNow],rfl,fun i x hi=>by cases hi⟩
end

theorem zqz (kd : KD) (e : MapEntry) (k : KV) : ∀ es : List MapEntry, findM kd (es ++ [e]) k = match findM kd es k with
    | some v=>some v
    | none=>if kd.key e.key=some k then some e.val else none
 | []=>by simp [findM]
 | x :: es=>by
  simp only [List.cons_append,findM]
  split
  ·rfl
  ·exact zqz kd e k es
theorem ztv {kd : KD} {k : KV} {v : Value} : ∀ {es es' : List MapEntry} {i : Nat}, es'.length = es.length → (∀ j e, es[j]? = some e → ∃ e', es'[j]? = some e' ∧ kd.key e'.key = kd.key e.key ∧ (j ≠ i → e'.val = e.val) ∧ (j = i → e'.val = v)) →
    (∃ e,es[i]?=some e∧kd.key e.key=some k)→(∀ j e,j<i→es[j]?=some e→kd.key e.key≠some k)→∀ k',findM kd es' k'=if k'=k then some v else findM kd es k'
 | [],es',i,hl,hh,⟨e,he,_⟩,_,k'=>by simp at he
 | x :: es,[],i,hl,hh,he,hf,k'=>by simp at hl
 | x :: es,y :: es',0,hl,hh,⟨e,he,hek⟩,hf,k'=>by
  simp only [List.getElem?_cons_zero,Option.some.injEq] at he
  subst he
  obtain ⟨e',h1,h2,_,h4⟩:=hh 0 x zas
  simp only [List.getElem?_cons_zero,Option.some.injEq] at h1
  subst h1
  simp only [findM,h2,hek]
  by_cases hc:k'=k
  ·subst hc;simp [h4 rfl]
  ·have hkk:¬ some k=some k':=fun q=>hc (by injection q with q;exact q.symm)
   simp only [hkk,hc,if_false]
   have:∀ (a b:List MapEntry),b.length=a.length→(∀ (j:Nat) (e:MapEntry),a[j]?=some e→∃ e':MapEntry,b[j]?=some e'∧kd.key e'.key=kd.key e.key∧e'.val=e.val)→findM kd b k'=findM kd a k':=by
    intro a
    induction a with
    | nil => intro b hb _; cases b with
      | nil=>rfl
      | cons _ _=>simp at hb
    | cons p a ih =>
     intro b hb hab
     cases b with
     | nil=>simp at hb
     | cons q b =>
      obtain ⟨e',g1,g2,g3⟩:=hab 0 p zas
      simp only [List.getElem?_cons_zero,Option.some.injEq] at g1
      subst g1
      simp only [findM,g2,g3]
      rw [ih b (by simpa using hb) fun j e hj=>by simpa using hab (j+1) e (by simpa using hj)]
   refine this es es' za4 fun j e hj=>?_
   obtain ⟨e',g1,g2,g3,_⟩:=hh (j+1) e (by simpa using hj)
   exact ⟨e',by simpa using g1,g2,g3 om⟩
 | x :: es,y :: es',i+1,hl,hh,⟨e,he,hek⟩,hf,k'=>by
  obtain ⟨e',h1,h2,h3,_⟩:=hh 0 x zas
  simp only [List.getElem?_cons_zero,Option.some.injEq] at h1
  subst h1
  have hx:=hf 0 x om zas
  have ih:=ztv (kd:=kd) (k:=k) (v:=v) (es:=es) (es':=es') (i:=i) za4 (fun j e hj=>by
   obtain ⟨e',g1,g2,g3,g4⟩:=hh (j+1) e (by simpa using hj)
   exact ⟨e',by simpa using g1,g2,fun hji=>g3 om,fun hji=>g4 om⟩) ⟨e,by simpa using he,hek⟩ (fun j e hj hje=>hf (j+1) e om (by simpa using hje)) k'
  simp only [findM,h2,h3 om]
  by_cases hc:kd.key x.key=some k'
  ·rw [if_pos hc,if_pos hc]
   by_cases hk:k'=k
   ·subst hk;exact absurd hc hx
   ·rw [if_neg hk]
  ·rw [if_neg hc,if_neg hc];exact ih

def mset {α:Type} (f:KV→Option α) (k:KV) (x:α):KV→Option α:=fun k'=>if k'=k then some x else f k'

section
variable {P:Program} {K V T:TypeId} {kd:KD} {w:World} {b ck:Nat} {es:Array MapEntry}

theorem zuh (ht : P.underlying T = some (.map K V)) (h : kdOk P K kd = true) (hb : w.heap[b]? = some (.map es ck)) {m : MV} (hm : MapOk kd m es) {kv : Value} {k : KV} (hk : kd.key kv = some k) {z : Value} (hz : (zeroValue V).run P w = .ok z w) (ok : Bool) :
    (Instr.lookup T (.map (some b)) kv ok).run P w=.ok (if ok then .tuple #[(m.val k).getD z,.bool (m.val k).isSome] else (m.val k).getD z) w:=by
 obtain ⟨r,h1,h2,_⟩:=zmi (w:=w) h hk hm.1
 rw [hm.2 k] at h2
 simp only [Instr.lookup,Sem.run_bind,run_underlying ht,Result.andThen_ok,MapKept.run_getObj_map hb,Sem.run_pure]
 rw [show (10000:Nat)=9998+2 from rfl,zkr h hk]
 simp only [Result.andThen_ok,h1]
 cases r with
 | none =>
  simp only [Option.map_none] at h2
  simp only [Sem.run_bind,hz,Result.andThen_ok,Sem.run_pure,← h2]
  cases ok<;>rfl
 | some q =>
  simp only [Option.map_some] at h2
  simp only [← h2]
  cases ok<;>rfl

theorem z2e {v v':Value} {k:KV} (h:kd.key v=some k) (h':kd.key v'=some k):(Instr.keyThatStays v' v).run P w=.ok v w:=by
 have e:=zz1 h h'
 subst e
 have hs:Instr.sameBits 10000 v v=true:=by
  cases kd with
  | str=>obtain ⟨s,rfl,_⟩:=zma h;simp [Instr.sameBits,MapKept.bytes_beq]
  | int i=>obtain ⟨s,rfl,_⟩:=zmb h;simp [Instr.sameBits]
  | pair=>obtain ⟨x,y,rfl,_⟩:=zjc h;simp [Instr.sameBits]
 simp [Instr.keyThatStays,hs]

theorem zpu (ht : P.underlying T = some (.map K V)) (h : kdOk P K kd = true) (hb : w.heap[b]? = some (.map es ck)) (hes : ∀ e ∈ es.toList, (kd.key e.key).isSome = true) {kv x : Value} {k : KV} (hk : kd.key kv = some k) :
    ∃ es' ck',(Instr.mapUpdate T (.map (some b)) kv x).run P w=.ok () { w with heap:=w.heap.setIfInBounds b (.map es' ck') }∧(∀ e∈es'.toList,(kd.key e.key).isSome=true)∧∀ k',findM kd es'.toList k'=if k'=k then some x else findM kd es.toList k':=by
 obtain ⟨r,h1,h2,h3⟩:=zmi (w:=w) h hk hes
 simp only [Instr.mapUpdate,Sem.run_bind,run_underlying ht,Result.andThen_ok,MapKept.run_getObj_map hb]
 rw [show (10000:Nat)=9998+2 from rfl,zkr h hk]
 simp only [Result.andThen_ok,h1]
 cases r with
 | none =>
  simp only [Option.map_none] at h2
  refine ⟨_,_,MapKept.run_setObj_map _ hb,fun e he=>?_,fun k'=>?_⟩
  ·simp only [Array.toList_push,List.mem_append,List.mem_singleton] at he
   rcases he with he | rfl
   ·exact hes e he
   ·simp [hk]
  ·simp only [Array.toList_push]
   rw [zqz]
   by_cases hc:k'=k
   ·subst hc;rw [← h2];simp [hk]
   ·rw [if_neg hc]
    have:¬ kd.key kv=some k':=fun q=>hc (by rw [hk] at q;injection q with q;exact q.symm)
    simp only [this,if_false]
    cases findM kd es.toList k'<;>rfl
 | some q =>
  obtain ⟨i,y⟩:=q
  obtain ⟨e,he,hek,hf⟩:=h3 i y rfl
  have he':es[i]?=some e:=by simpa using he
  simp only [Sem.run_bind,he',Option.map_some,Option.getD_some,z2e hk hek,Result.andThen_ok]
  refine ⟨_,_,MapKept.run_setObj_map _ hb,fun e' hm=>?_,fun k'=>?_⟩
  ·obtain ⟨j,hj,hje⟩:=List.getElem_of_mem hm
   have hj':(es.modify i fun e=>{ e with key:=kv,val:=x })[j]?=some e':=by
    rw [← Array.getElem?_toList,List.getElem?_eq_getElem hj,hje]
   rw [Array.getElem?_modify] at hj'
   split at hj'
   ·simp only [Option.map_eq_some_iff] at hj'
    obtain ⟨_,_,rfl⟩:=hj'
    simp [hk]
   ·exact hes e' (Array.mem_toList_iff.2 (Array.mem_of_getElem? hj'))
  ·refine ztv (i:=i) (k:=k) (v:=x) zas (fun j e0 hj=>?_) ⟨e,he,hek⟩ (fun j e0 hj hje=>hf j e0 hj hje) k'
   have hj0:es[j]?=some e0:=by simpa using hj
   by_cases hij:i=j
   ·subst hij
    rw [he'] at hj0
    cases hj0
    exact ⟨{ e with key:=kv,val:=x },by simp [Array.getElem?_modify,he'],by simp [hk,hek],fun hne=>absurd rfl hne,fun _=>rfl⟩
   ·exact ⟨e0,by simp [Array.getElem?_modify,hij,hj0],rfl,fun _=>rfl,fun hne=>absurd hne.symm hij⟩
end
end Go.Lite
