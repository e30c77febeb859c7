/- Maps: what the operations on them do, in terms of what a map holds by key. Conditions: none; over any program. -/
import Derived.Test.YtnibbmmljamolaaGreatLiteA
import Derived.MapKept
set_option linter.unusedVariables false
set_option linter.unusedSimpArgs false
namespace Go.Lite
open Go Go.RowKit

def intTy(P : Program)(T : TypeId) : Bool := match P.underlying T with
  |some (.int .i64)=>true
  |_=>false
def kdOk(P : Program)(K : TypeId)(kd : KD) : Bool := match kd, P.underlying K with
  |.str,some .string=>true
  |.int k,some (.int k')=>decide (k=k')
  | .pair, some (.struct fs) => match fs.toList with
    | [f, g] => intTy P f.type && (intTy P g.type && (Nat.beq f.offset 0 && (Nat.beq g.offset 1 && (f.name != "_" && (g.name != "_" && !P.stoodInHeld K)))))
    |_=>false
  |_,_=>false

section
variable {P:Program} {K:TypeId} {kd:KD} {w:World}

theorem zme{v:Value}{k:KV}(h:KD.str.key v=some k):∃s,v=.string s∧k=.s s.data.toList:=by cases v<;>simp[KD.key] at h;exact⟨_,rfl,h.symm⟩
theorem zmf{i:IntKind}{v:Value}{k:KV}(h:(KD.int i).key v=some k):∃n,v=.int i n∧k=.i n:=by cases v<;>simp[KD.key] at h;grind
theorem zjh{v : Value}{k : KV}(h : KD.pair.key v = some k) : ∃a b, v = Value.agg #[Value.int IntKind.i64 a, Value.int IntKind.i64 b] ∧ k = .p a b := by
 cases v<;>simp only[KD.key] at h<;>try (cases h;done)
 split at h
 ·rename_i vs _ a b hvs;cases h;refine ⟨a, b, ?_, rfl⟩;have e : vs = #[Value.int IntKind.i64 a, Value.int IntKind.i64 b] := vdi
  rw[e]
 cases h

theorem z0z{v v' : Value}{k : KV}(h : kd.key v = some k)(h' : kd.key v' = some k) : v = v' := by
 cases kd with
 |str =>obtain⟨s,rfl,rfl⟩:=zme h;obtain⟨s',rfl,e⟩:=zme h';cases s;cases s';simp_all
 |int i =>obtain⟨n,rfl,rfl⟩:=zmf h;obtain⟨n',rfl,e⟩:=zmf h';grind
 |pair =>obtain⟨a,b,rfl,rfl⟩:=zjh h;obtain⟨a',b',rfl,e⟩:=zjh h';grind

theorem zq6{T : TypeId}(h : intTy P T = true) : P.underlying T = some (.int .i64) := by
 unfold intTy at h;split at h
 ·assumption
 cases h

theorem z4f(h:kdOk P K .str=true):P.underlying K=some .string:=by unfold kdOk at h;split at h<;>simp_all
theorem z4g{i:IntKind}(h:kdOk P K (.int i)=true):P.underlying K=some (.int i):=by unfold kdOk at h;split at h<;>simp_all
theorem zvu (h : kdOk P K .pair = true) : ∃ f g : Field, P.underlying K = some (.struct #[f, g]) ∧ P.underlying f.type = some (.int .i64) ∧ P.underlying g.type = some (.int .i64) ∧ f.offset = 0 ∧ g.offset = 1 ∧ f.name ≠ "_" ∧ g.name ≠ "_" ∧ P.stoodInHeld K = false := by
  unfold kdOk at h
  split at h
  · grind
  · grind
  · rename_i fs hu hk
    split at h
    · rename_i f g hfs
      simp only[oc,bne_iff_ne,od] at h
      obtain⟨h1,h2,h3,h4,h5,h6,h7⟩:=h
      have e:fs=#[f,g]:=vdi
      subst e
      exact⟨f,g,hk,zq6 h1,zq6 h2,oo h3,oo h4,h5,h6,h7⟩
    · cases h
  · cases h

theorem z04{T:TypeId}(h:P.underlying T=some (.int .i64))(w:World):(isAgg T).run P w=.ok false w:=by simp[isAgg,oO h]
theorem znh{T:TypeId}(h:P.underlying T=some (.int .i64)){cs:Array Value}{i:Nat}{v:Value}(hv:cs[i]?=some v)(w:World):(part T cs i).run P w=.ok v w:=by simp[part,z04 h,hv,Result.andThen]

theorem zkp(h : kdOk P K kd = true){v : Value}{k : KV}(hk : kd.key v = some k)(e : Bool)(n : Nat) : (Instr.checkKey e (n + 2) K v).run P w = .ok () w := by
 cases kd with
 |str =>obtain⟨s,rfl,_⟩:=zme hk;exact MapKept.run_checkKey (z4f h) (by simp[MapKept.IsKey]) e (n+1)
 |int i =>obtain⟨m,rfl,_⟩:=zmf hk;exact MapKept.run_checkKey (z4g h) (by simp[MapKept.IsKey]) e (n+1)
 |pair =>obtain⟨a,b,rfl,_⟩:=zjh hk;obtain⟨f,g,hu,h1,h2,h3,h4,h5,h6,h7⟩:=zvu h;rw[Instr.checkKey];simp only[oF,oO hu];have c1:(Instr.checkKey e (n+1) f.type (Value.int IntKind.i64 a)).run P w=.ok () w:=MapKept.run_checkKey h1 (by simp[MapKept.IsKey]) e n;have c2:(Instr.checkKey e (n+1) g.type (Value.int IntKind.i64 b)).run P w=.ok () w:=MapKept.run_checkKey h2 (by simp[MapKept.IsKey]) e n;have p1:=znh h1 (cs:=#[Value.int IntKind.i64 a,Value.int IntKind.i64 b]) (i:=f.offset) (v:=Value.int IntKind.i64 a) (by rw[h3];rfl) w;have p2:=znh h2 (cs:=#[Value.int IntKind.i64 a,Value.int IntKind.i64 b]) (i:=g.offset) (v:=Value.int IntKind.i64 b) (by rw[h4];rfl) w;simp_all

theorem zuh{T:TypeId}(h:P.underlying T=some (.int .i64))(d:Nat)(a b:Int):(Op.equalIn (d+1) T (Value.int IntKind.i64 a) (Value.int IntKind.i64 b)).run P w=.ok (a==b) w:=by simp[Op.equalIn,oO h]

theorem zpr(h:kdOk P K .pair=true)(a b a' b':Int):(Op.equal K (Value.agg #[Value.int IntKind.i64 a,Value.int IntKind.i64 b]) (Value.agg #[Value.int IntKind.i64 a',Value.int IntKind.i64 b'])).run P w=.ok (decide (a=a'∧b=b')) w:=by obtain⟨f,g,hu,h1,h2,h3,h4,h5,h6,h7⟩:=zvu h;have p1:=fun x y=>znh h1 (cs:=#[Value.int IntKind.i64 x,Value.int IntKind.i64 y]) (i:=f.offset) (v:=Value.int IntKind.i64 x) (by rw[h3];rfl) w;have p2:=fun x y=>znh h2 (cs:=#[Value.int IntKind.i64 x,Value.int IntKind.i64 y]) (i:=g.offset) (v:=Value.int IntKind.i64 y) (by rw[h4];rfl) w;have hm:Op.maxDepth=9998+1+1:=rfl;rw[Op.equal,hm,Op.equalIn];simp only[oF,oO hu,oA,run_program,h7,oV,if_false];rw[←Array.forIn_toList];simp only[List.forIn_cons,oF,h5,h6,ne_eq,not_false_eq_true,if_true,oA,p1,zuh h1];by_cases ha:a=a'<;>by_cases hb:b=b'<;>simp[ha,hb,p2,zuh h2]

theorem zml (h : kdOk P K kd = true) {v : Value} {k : KV} (hk : kd.key v = some k) {es : List MapEntry} (hes : ∀ e ∈ es, (kd.key e.key).isSome = true) : ∃ r, (Instr.findKey K v es).run P w = .ok r w ∧ r.map (·.2) = findM kd es k ∧ ∀ i x, r = some (i, x) → ∃ e, es[i]? = some e ∧ kd.key e.key = some k ∧ ∀ j e', j < i → es[j]? = some e' → kd.key e'.key ≠ some k := by
 have now : ∀ d : TypeDesc, P.underlying K = some d → MapKept.IsKey d v → (∀ e ∈ es, MapKept.IsKey d e.key) → ∃ r, (Instr.findKey K v es).run P w = .ok r w ∧ r.map (·.2) = findM kd es k ∧ ∀ i x, r = some (i, x) → ∃ e, es[i]? = some e ∧ kd.key e.key = some k ∧ ∀ j e', j < i → es[j]? = some e' → kd.key e'.key ≠ some k := by
  intro d hd h1 h2;have key : ∀ (l : List MapEntry) (i : Nat), (∀ e ∈ l, MapKept.IsKey d e.key) → ∃ r, Instr.findNow d v l i = some r ∧ r.map (·.2) = findM kd l k ∧ ∀ j x, r = some (j, x) → i ≤ j ∧ ∃ e, l[j - i]? = some e ∧ kd.key e.key = some k ∧ ∀ m e', m < j - i → l[m]? = some e' → kd.key e'.key ≠ some k := by
   intro l;induction l with
   |nil =>intro i _;exact⟨none,rfl,rfl,fun j x hj=>by cases hj⟩
   |cons e l ih =>
    intro i hl;obtain⟨r,hr,hiff⟩:=MapKept.sameNow_of_keys h1 (hl e (.head _));cases r with
    |true =>have e1:kd.key e.key=some k:=vdi;refine⟨some (i,e.val),by simp[Instr.findNow,hr],by simp[findM,e1],fun j x hj=>?_⟩;grind
    |false =>have hne:kd.key e.key≠some k:=fun q=>(by have:=hiff.2 (z0z hk q);grind);obtain⟨r,g1,g2,g3⟩:=ih (i+1) fun x hx=>hl x (.tail _ hx);refine⟨r,by simp[Instr.findNow,hr,g1],by simp[findM,hne,g2],fun j x hj=>?_⟩;obtain⟨q1,e',q2,q3,q4⟩:=g3 j x hj;refine⟨vdh,e',by rw[show j - i=(j - (i+1))+1 by omega];simpa using q2,q3,fun m e'' hm he=>?_⟩;grind
  obtain⟨r,g1,g2,g3⟩:=key es 0 h2;refine⟨r,MapKept.run_findKey hd g1,g2,fun i x hi=>?_⟩;grind
 cases kd with
 |str =>
  refine now _ (z4f h) ?_ fun e he=>?_
  ·obtain ⟨s, rfl, _⟩ := zme hk; simp [MapKept.IsKey]
  obtain⟨k',hk'⟩:=Option.isSome_iff_exists.1 (hes e he);obtain⟨s,e1,_⟩:=zme hk';rw[e1];simp[MapKept.IsKey]
 |int i =>
  refine now _ (z4g h) ?_ fun e he=>?_
  ·obtain ⟨s, rfl, _⟩ := zmf hk; simp [MapKept.IsKey]
  obtain⟨k',hk'⟩:=Option.isSome_iff_exists.1 (hes e he);obtain⟨s,e1,_⟩:=zmf hk';rw[e1];simp[MapKept.IsKey]
 |pair =>
  obtain ⟨a, b, rfl, rfl⟩ := zjh hk;obtain ⟨f, g, hu, _⟩ := zvu h;have key : ∀ (l : List MapEntry) (i : Nat), (∀ e ∈ l, (KD.pair.key e.key).isSome = true) → ∃ r, (Instr.findAsking K (Value.agg #[Value.int IntKind.i64 a, Value.int IntKind.i64 b]) l i).run P w = .ok r w ∧ r.map (·.2) = findM .pair l (.p a b) ∧ ∀ j x, r = some (j, x) → i ≤ j ∧ ∃ e, l[j - i]? = some e ∧ KD.pair.key e.key = some (.p a b) ∧ ∀ m e', m < j - i → l[m]? = some e' → KD.pair.key e'.key ≠ some (.p a b) := by
   intro l;induction l with
   |nil =>intro i _;exact⟨none,rfl,rfl,fun j x hj=>by cases hj⟩
   |cons e l ih =>
    intro i hl;obtain⟨k',hk'⟩:=Option.isSome_iff_exists.1 (hl e (.head _));obtain⟨a',b',e1,rfl⟩:=zjh hk';rw[Instr.findAsking,oF,e1,zpr h,oA];by_cases hc:a=a'∧b=b'
    ·obtain ⟨rfl, rfl⟩ := hc;refine ⟨some (i, e.val), vdj, by simp [findM, hk'], fun j x hj => ?_⟩;cases hj;exact ⟨oz _, e, vdj, hk', fun m e' hm => vdh⟩
    have hne:KD.pair.key e.key≠some (.p a b):=fun q=>(by rw[hk'] at q;simp only[oq,KV.p.injEq] at q;exact hc ⟨q.1.symm,q.2.symm⟩);obtain⟨r,g1,g2,g3⟩:=ih (i+1) fun x hx=>hl x (.tail _ hx);refine⟨r,by simp[hc,g1],by rw[findM,if_neg hne];exact g2,fun j x hj=>?_⟩;obtain⟨q1,e',q2,q3,q4⟩:=g3 j x hj;refine⟨vdh,e',by rw[show j - i=(j - (i+1))+1 by omega];simpa using q2,q3,fun m e'' hm he=>?_⟩;cases m with
    |zero =>simp at he;subst he;exact hne
    |succ m =>exact q4 m e'' vdh (by simpa using he)
  obtain⟨r, g1, g2, g3⟩ := key es 0 hes;have hnow : Instr.findNow (TypeDesc.struct #[f, g]) (Value.agg #[Value.int IntKind.i64 a, Value.int IntKind.i64 b]) es 0 = none ∨ es = [] := by
   cases es with
   |nil =>exact .inr rfl
   |cons e l =>left;simp[Instr.findNow,Instr.sameNow]
  rcases hnow with hn | rfl
  ·refine ⟨r, by simp [Instr.findKey, oO hu, Result.andThen, hn, g1], g2, fun i x hi => ?_⟩;obtain ⟨_, e, q1, q2, q3⟩ := g3 i x hi;exact ⟨e, by simpa using q1, q2, fun j e' hj => q3 j e' vdh⟩
  exact⟨none,by simp[Instr.findKey,oO hu,Result.andThen,Instr.findNow],rfl,fun i x hi=>by cases hi⟩
end

theorem zq7(kd : KD)(e : MapEntry)(k : KV) : ∀es : List MapEntry, findM kd (es ++ [e]) k = match findM kd es k with
    |some v=>some v
    |none=>if kd.key e.key=some k then some e.val else none
  |[]=>by simp[findM]
  |x :: es => by
    simp only[List.cons_append,findM]
    split
    · rfl
    · exact zq7 kd e k es
theorem zud{kd : KD}{k : KV}{v : Value} : ∀{es es' : List MapEntry} {i : Nat}, es'.length = es.length → (∀j e, es[j]? = some e → ∃e', es'[j]? = some e' ∧ kd.key e'.key = kd.key e.key ∧ (j ≠ i → e'.val = e.val) ∧ (j = i → e'.val = v)) →
    (∃e,es[i]?=some e∧kd.key e.key=some k)→(∀j e,j<i→es[j]?=some e→kd.key e.key≠some k)→∀k',findM kd es' k'=if k'=k then some v else findM kd es k'
  |[],es',i,hl,hh,⟨e,he,_⟩,_,k'=>by simp at he
  |x :: es,[],i,hl,hh,he,hf,k'=>by simp at hl
  |x :: es, y :: es', 0, hl, hh, ⟨e, he, hek⟩, hf, k' => by
    simp only[List.getElem?_cons_zero,oq] at he
    subst he
    obtain⟨e',h1,h2,_,h4⟩:=hh 0 x vdj
    simp only[List.getElem?_cons_zero,oq] at h1
    subst h1
    simp only[findM,h2,hek]
    by_cases hc:k'=k
    · grind
    · have hkk:¬ some k=some k':=fun q=>hc (by injection q with q;exact q.symm)
      simp only[hkk,hc,if_false]
      have : ∀(a b : List MapEntry), b.length = a.length → (∀(j : Nat) (e : MapEntry), a[j]? = some e → ∃e' : MapEntry, b[j]? = some e' ∧ kd.key e'.key = kd.key e.key ∧ e'.val = e.val) → findM kd b k' = findM kd a k' := by
        intro a
        induction a with
        | nil => intro b hb _; cases b with
          |nil=>rfl
          |cons _ _=>simp at hb
        |cons p a ih =>
          intro b hb hab
          cases b with
          |nil=>simp at hb
          |cons q b =>
            obtain⟨e',g1,g2,g3⟩:=hab 0 p vdj
            simp only[List.getElem?_cons_zero,oq] at g1
            subst g1
            simp only[findM,g2,g3]
            rw[ih b (by simpa using hb) fun j e hj=>by simpa using hab (j+1) e vcZ]
      refine this es es' vcX fun j e hj=>?_
      obtain⟨e',g1,g2,g3,_⟩:=hh (j+1) e vcZ
      grind
  |x :: es, y :: es', i + 1, hl, hh, ⟨e, he, hek⟩, hf, k' => by
    obtain⟨e',h1,h2,h3,_⟩:=hh 0 x vdj
    simp only[List.getElem?_cons_zero,oq] at h1
    subst h1
    have hx:=hf 0 x vdh vdj
    have ih := zud (kd := kd) (k := k) (v := v) (es := es) (es' := es') (i := i) vcX (fun j e hj => by
      obtain⟨e',g1,g2,g3,g4⟩:=hh (j+1) e vcZ
      exact⟨e',by simpa using g1,g2,fun hji=>g3 vdh,fun hji=>g4 vdh⟩) ⟨e,by simpa using he,hek⟩ (fun j e hj hje=>hf (j+1) e vdh (by simpa using hje)) k'
    simp only[findM,h2,h3 vdh]
    by_cases hc:kd.key x.key=some k'
    · rw [if_pos hc,if_pos hc]
      simp_all
    · rw [if_neg hc,if_neg hc];exact ih

def mset{α:Type}(f:KV→Option α)(k:KV)(x:α):KV→Option α:=fun k'=>if k'=k then some x else f k'

section
variable {P:Program} {K V T:TypeId} {kd:KD} {w:World} {b ck:Nat} {es:Array MapEntry}

theorem zu2(ht : P.underlying T = some (.map K V))(h : kdOk P K kd = true)(hb : w.heap[b]? = some (.map es ck)){m : MV}(hm : MapOk kd m es){kv : Value}{k : KV}(hk : kd.key kv = some k){z : Value}(hz : (zeroValue V).run P w = .ok z w)(ok : Bool) : (Instr.lookup T (.map (some b)) kv ok).run P w = .ok (if ok then .tuple #[(m.val k).getD z, .bool (m.val k).isSome] else(m.val k).getD z) w := by
 obtain⟨r,h1,h2,_⟩:=zml (w:=w) h hk hm.1;rw[hm.2 k] at h2;simp only[Instr.lookup,oF,oO ht,oA,MapKept.run_getObj_map hb,oL];rw[show(10000:Nat)=9998+2 from rfl,zkp h hk];simp only[oA,h1];cases r with
 |none =>simp only[oF,hz,oA,oL];grind
 |some q =>simp only[←h2];simp

theorem z29{v v' : Value}{k : KV}(h : kd.key v = some k)(h' : kd.key v' = some k) : (Instr.keyThatStays v' v).run P w = .ok v w := by
 have e := z0z h h';subst e;have hs : Instr.sameBits 10000 v v = true := by
  cases kd with
  |str =>obtain⟨s,rfl,_⟩:=zme h;simp[Instr.sameBits,MapKept.bytes_beq]
  |int i =>obtain⟨s,rfl,_⟩:=zmf h;simp[Instr.sameBits]
  |pair =>obtain⟨x,y,rfl,_⟩:=zjh h;simp[Instr.sameBits]
 simp[Instr.keyThatStays,hs]

theorem zpp(ht : P.underlying T = some (.map K V))(h : kdOk P K kd = true)(hb : w.heap[b]? = some (.map es ck))(hes : ∀e ∈ es.toList, (kd.key e.key).isSome = true){kv x : Value}{k : KV}(hk : kd.key kv = some k) : ∃es' ck', (Instr.mapUpdate T (.map (some b)) kv x).run P w = .ok () { w with heap := w.heap.setIfInBounds b (.map es' ck') } ∧ (∀e ∈ es'.toList, (kd.key e.key).isSome = true) ∧ ∀k', findM kd es'.toList k' = if k' = k then some x else findM kd es.toList k' := by
 obtain⟨r,h1,h2,h3⟩:=zml (w:=w) h hk hes;simp only[Instr.mapUpdate,oF,oO ht,oA,MapKept.run_getObj_map hb];rw[show(10000:Nat)=9998+2 from rfl,zkp h hk];simp only[oA,h1];cases r with
 |none =>
  refine⟨_,_,MapKept.run_setObj_map _ hb,fun e he=>?_,fun k'=>?_⟩
  ·grind
  simp only[Array.toList_push];rw[zq7];grind
 |some q =>
  obtain⟨i,y⟩:=q;obtain⟨e,he,hek,hf⟩:=h3 i y rfl;have he':es[i]?=some e:=vdi
  simp only[oF,he',Option.map_some,Option.getD_some,z29 hk hek];refine⟨_,_,MapKept.run_setObj_map _ hb,fun e' hm=>?_,fun k'=>?_⟩
  ·obtain ⟨j, hj, hje⟩ := oZ hm;have hj' : (es.modify i fun e => { e with key := kv, val := x })[j]? = some e' := (by rw [← Array.getElem?_toList, ol hj, hje]);rw [Array.getElem?_modify] at hj';split at hj'
   ·simp only [ou] at hj';obtain ⟨_, _, rfl⟩ := hj';simp [hk]
   exact hes e' (Array.mem_toList_iff.2 (Array.mem_of_getElem? hj'))
  refine zud (i:=i) (k:=k) (v:=x) vdj (fun j e0 hj=>?_) ⟨e,he,hek⟩ (fun j e0 hj hje=>hf j e0 hj hje) k';have hj0:es[j]?=some e0:=vcZ
  by_cases hij:i=j
  ·subst hij;rw [he'] at hj0;cases hj0;exact ⟨{ e with key := kv, val := x }, by simp [Array.getElem?_modify, he'], by simp [hk, hek], fun hne => absurd rfl hne, fun _ => rfl⟩
  exact⟨e0,by simp[Array.getElem?_modify,hij,hj0],rfl,fun _=>rfl,fun hne=>absurd hne.symm hij⟩
end
end Go.Lite
