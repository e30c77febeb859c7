/- What an operation does hangs on the claims that it reads alone: more claims, the same doing. Conditions: none; over any program. -/
import Derived.Test.YtlinnkjieghmhaaGreatDoorLiteL
set_option linter.unusedVariables false
namespace Go.Lite
open Go Go.RowKit

def Le {α:Type} (f g:Nat→Option α):Prop:=∀ i x,f i=some x→g i=some x

section
variable {P:Program} {sl sl':Nat→Option LV} {blk blk':Nat→Option BC}

theorem ztn {α:Type} {x:Option α} {y:α} (h:x=some y):x.isSome=true:=by rw [h];rfl
theorem zcl {α:Type} {x y:Option α} (h:∀ r,x=some r→y=some r) (hx:x.isSome=true):y=x:=by
 cases x with
 | none=>cases hx
 | some r=>exact h r rfl

theorem zho (hs:Le sl sl') {x:Operand} {r:LV×List Prop} (h:ev sl x=some r):ev sl' x=some r:=by
 cases x with
 | tmp t =>
  simp only [ev,Option.map_eq_some_iff] at h ⊢
  obtain ⟨v,h1,h2⟩:=h
  exact ⟨v,hs t v h1,h2⟩
 | _=>exact h
theorem znr (hs : Le sl sl') : ∀ {xs : List Operand} {r : List LV × List Prop}, evs sl xs = some r → evs sl' xs = some r
  | [],r,h=>h
  | x :: xs,r,h=>by
    simp only [evs] at h ⊢
    split at h
    · rename_i h1 h2
      rw [zho hs h1,znr hs h2];exact h
    · cases h
theorem zix (hs : Le sl sl') : ∀ {xs : List (Nat × Operand)} {r : List (Nat × List LV) × List Prop}, zem sl xs = some r → zem sl' xs = some r
  | [],r,h=>h
  | x :: xs,r,h=>by
    simp only [zem] at h ⊢
    split at h
    · rename_i h1 h2
      rw [zho hs h1,zix hs h2];exact h
    · cases h
theorem zs2 (hs:Le sl sl') {d:Nat} {x:Option Operand} {r:Int×List Prop} (h:optN sl d x=some r):optN sl' d x=some r:=by
 cases x with
 | none=>exact h
 | some x =>
  simp only [optN] at h ⊢
  split at h
  ·rename_i h1
   rw [zho hs h1];exact h
  ·cases h
theorem ztj (hb:Le blk blk') {T:TypeId} {x:LV} {n:Nat} (h:lenL P T blk x=some n):lenL P T blk' x=some n:=by
 have e3:∀ i,(blk i).isSome=true→blk' i=blk i:=fun x hx=>zcl (fun r hr=>hb x r hr) hx
 unfold lenL at h ⊢
 repeat' split at h
 all_goals first
   | (cases h;done)
   | (simp_all;done)
mutual
theorem zpn {kv kv' : Nat → Nat → Option LV} (hk : ∀ id off x, kv id off = some x → kv' id off = some x) (hb : Le blk blk') : ∀ {v x : LV}, zcj kv blk v = some x → zcj kv' blk' v = some x
  | .agg l,x,h=>by
    simp only [zcj,Option.map_eq_some_iff] at h ⊢
    obtain ⟨y,h1,h2⟩:=h
    exact ⟨y,zez hk hb h1,h2⟩
  | .tup l,x,h=>by
    simp only [zcj,Option.map_eq_some_iff] at h ⊢
    obtain ⟨y,h1,h2⟩:=h
    exact ⟨y,zez hk hb h1,h2⟩
  | .clo f l,x,h=>by
    simp only [zcj,Option.map_eq_some_iff] at h ⊢
    obtain ⟨y,h1,h2⟩:=h
    exact ⟨y,zez hk hb h1,h2⟩
  | .own id,x,h=>by
    simp only [zcj] at h ⊢
    split at h
    · rename_i h1;rw [hb _ _ h1];exact h
    · rename_i h1;rw [hb _ _ h1];exact h
    · rename_i h0 h1
      rw [hb _ _ h1]
      split
      · rename_i e;cases e
      · rename_i e;cases e;exact (h0 rfl).elim
      · rename_i e;cases e;exact h
      · rename_i e;exact (e _ _ _ _ _ rfl).elim
    · cases h
  | .vp id off,x,h=>by simp only [zcj] at h ⊢;exact hk _ _ _ h
  | .ap _ _ _ _,x,h=>by simp [zcj] at h
  | .mp id,x,h=>by
    simp only [zcj] at h ⊢
    split at h
    · rename_i h1;rw [hb _ _ h1];exact h
    · cases h
  | .rm _ _,x,h=>by simpa only [zcj] using h
  | .whn _ _,x,h=>by simp [zcj] at h
  | .k _ _,x,h=>by simpa only [zcj] using h
  | .er _,x,h=>by simpa only [zcj] using h
  | .fv,x,h=>by simpa only [zcj] using h
  | .any,x,h=>by simpa only [zcj] using h
  | .ifc t v,x,h=>by
    simp only [zcj,Option.map_eq_some_iff] at h ⊢
    obtain ⟨y,h1,h2⟩:=h
    exact ⟨y,zpn hk hb h1,h2⟩
  | .ro _ sz n row,x,h=>by simpa only [zcj] using h
  | .ep row off,x,h=>by simpa only [zcj] using h
  | .int k n,x,h=>by simpa only [zcj] using h
  | .bool b,x,h=>by simpa only [zcj] using h
  | .str s,x,h=>by simpa only [zcj] using h
  | .nilS,x,h=>by simpa only [zcj] using h
  | .nilM,x,h=>by simpa only [zcj] using h
  | .nilP,x,h=>by simpa only [zcj] using h
  | .fn f,x,h=>by simpa only [zcj] using h
theorem zez {kv kv' : Nat → Nat → Option LV} (hk : ∀ id off x, kv id off = some x → kv' id off = some x) (hb : Le blk blk') : ∀ {v x : List LV}, zfi kv blk v = some x → zfi kv' blk' v = some x
  | [],x,h=>by simpa only [zfi] using h
  | v :: r,x,h=>by
    simp only [zfi] at h ⊢
    split at h
    · rename_i h1 h2
      rw [zpn hk hb h1,zez hk hb h2];exact h
    · cases h
end
theorem zwa (hb : Le blk blk') : ∀ (n id off : Nat) (x : LV), kvN blk n id off = some x → kvN blk' n id off = some x
  | 0,id,off,x,h=>by cases h
  | n+1,id,off,x,h=>by
    simp only [kvN] at h ⊢
    split at h
    · rename_i cs h1
      rw [hb _ _ h1]
      split at h
      · rename_i l h2
        simp only [zez (zwa hb n) hb h2];exact h
      · cases h
    · cases h
theorem zvf (hb:Le blk blk') {v x:List LV} (h:zjw blk v=some x):zjw blk' v=some x:=zez (zwa hb 3) hb h
theorem zwk (hb:Le blk blk') {v:LV} {r:LV×List Nat} (h:frz blk v=some r):frz blk' v=some r:=by
 cases v with
 | own id =>
  simp only [frz] at h ⊢
  split at h
  ·rename_i h1;rw [hb _ _ h1];exact h
  ·cases h
 | _=>first | exact h | cases h
theorem zpg (hb : Le blk blk') : ∀ {v : List LV} {r : List LV × List Nat}, frzL blk v = some r → frzL blk' v = some r
  | [],r,h=>h
  | v :: l,r,h=>by
    simp only [frzL] at h ⊢
    split at h
    · rename_i h1 h2
      rw [zwk hb h1,zpg hb h2];exact h
    · cases h
theorem zts (hb : Le blk blk') : ∀ {v : List (Nat × List LV)} {r : List (Nat × List LV) × List Nat}, frzP blk v = some r → frzP blk' v = some r
  | [],r,h=>h
  | v :: l,r,h=>by
    simp only [frzP] at h ⊢
    split at h
    · rename_i h1 h2
      rw [zpg hb h1,zts hb h2];exact h
    · cases h
theorem zyk (hb:Le blk blk') {v:LV} {r:Nat×Nat×(Nat→List LV)×List Nat} (h:arrOf blk v=some r):arrOf blk' v=some r:=by
 cases v with
 | own id =>
  simp only [arrOf] at h ⊢
  split at h
  ·rename_i h1;rw [hb _ _ h1];exact h
  ·cases h
 | _=>first | exact h | cases h

theorem zsy (hb : Le blk blk') {ids : List Nat} : ∀ {l : List Nat} {r : List BC}, preL blk ids l = some r → preL blk' ids l = some r
  | [],r,h=>by cases h;rfl
  | i :: l,r,h=>by
    simp only [preL] at h ⊢
    split at h
    · rename_i c q h1 h2
      rw [hb _ _ h1,zsy hb h2];exact h
    · cases h
theorem zyd (hb:Le blk blk') {g:Nat} {xs:List LV} {p:List Prop} {dst:Bool} {d:Nat} {ids:List Nat} {rbl:List (Nat×BC)} {r:LV} {D:MD} (h:callM P blk g xs p dst d ids rbl r=some D):callM P blk' g xs p dst d ids rbl r=some D:=by
 unfold callM at h ⊢
 split at h
 ·rename_i bl fn h1 h2
  rw [zsy hb h1,h2];exact h
 ·cases h
theorem z1z (hs:Le sl sl') (hb:Le blk blk') {o:Oper} {h:Hint} {r:LV×List Prop} (hv:vop P o sl blk h=some r):vop P o sl' blk' h=some r:=by
 have e1:∀ x,(ev sl x).isSome=true→ev sl' x=ev sl x:=fun x hx=>zcl (fun r hr=>zho hs hr) hx
 have e2:∀ x,(evs sl x).isSome=true→evs sl' x=evs sl x:=fun x hx=>zcl (fun r hr=>znr hs hr) hx
 have e3:∀ i,(blk i).isSome=true→blk' i=blk i:=fun x hx=>zcl (fun r hr=>hb x r hr) hx
 have e4:∀ T x,(lenL P T blk x).isSome=true→lenL P T blk' x=lenL P T blk x:=fun T x hx=>zcl (fun r hr=>ztj hb hr) hx
 unfold vop at hv ⊢
 repeat' split at hv
 all_goals first
   | (cases hv;done)
   | (simp_all;done)
   | (rename_i q;rw [e1 _ (ztn q)];simp only [q];exact hv)
   | (rename_i q;rw [e1 _ (ztn q)];simp only [q,Option.map_eq_some_iff] at hv ⊢;obtain ⟨n,h1,h2⟩:=hv;exact ⟨n,ztj hb h1,h2⟩)

theorem zyn (hs:Le sl sl') (hb:Le blk blk') {o:Oper} {r:LV×List Prop} (hv:vop2 P o sl blk=some r):vop2 P o sl' blk'=some r:=by
 have e1:∀ x,(ev sl x).isSome=true→ev sl' x=ev sl x:=fun x hx=>zcl (fun r hr=>zho hs hr) hx
 have e2:∀ x,(zem sl x).isSome=true→zem sl' x=zem sl x:=fun x hx=>zcl (fun r hr=>zix hs hr) hx
 have e3:∀ d x,(optN sl d x).isSome=true→optN sl' d x=optN sl d x:=fun d x hx=>zcl (fun r hr=>zs2 hs hr) hx
 have e4:∀ i,(blk i).isSome=true→blk' i=blk i:=fun x hx=>zcl (fun r hr=>hb x r hr) hx
 unfold vop2 at hv ⊢
 repeat' split at hv
 all_goals first
   | (cases hv;done)
   | (simp_all;done)
   | (rename_i g first caps _
      cases hb9:first.isEmpty with
      | true =>
        rw [hb9] at hv
        simp only [cond_true,Option.map_eq_some_iff] at hv ⊢
        obtain ⟨x,h1,h2⟩:=hv
        exact ⟨x,znr hs h1,h2⟩
      | false=>rw [hb9] at hv;cases hv)
   | (simp only [Option.map_eq_some_iff] at hv ⊢
      obtain ⟨x,h1,h2⟩:=hv
      exact ⟨x,zho hs h1,h2⟩)

theorem zoy (hs:Le sl sl') (hb:Le blk blk') {o:Oper} {h:Hint} {r:MD} (hv:mop0 P o sl blk h=some r):mop0 P o sl' blk' h=some r:=by
 have e1:∀ x,(ev sl x).isSome=true→ev sl' x=ev sl x:=fun x hx=>zcl (fun r hr=>zho hs hr) hx
 have e2:∀ x,(evs sl x).isSome=true→evs sl' x=evs sl x:=fun x hx=>zcl (fun r hr=>znr hs hr) hx
 have e3:∀ i,(blk i).isSome=true→blk' i=blk i:=fun x hx=>zcl (fun r hr=>hb x r hr) hx
 have e4:∀ x,(zem sl x).isSome=true→zem sl' x=zem sl x:=fun x hx=>zcl (fun r hr=>zix hs hr) hx
 have e5:∀ d x,(optN sl d x).isSome=true→optN sl' d x=optN sl d x:=fun d x hx=>zcl (fun r hr=>zs2 hs hr) hx
 have e6:∀ x,(frzL blk x).isSome=true→frzL blk' x=frzL blk x:=fun x hx=>zcl (fun r hr=>zpg hb hr) hx
 have e7:∀ x,(frzP blk x).isSome=true→frzP blk' x=frzP blk x:=fun x hx=>zcl (fun r hr=>zts hb hr) hx
 have e8:∀ x,(arrOf blk x).isSome=true→arrOf blk' x=arrOf blk x:=fun x hx=>zcl (fun r hr=>zyk hb hr) hx
 have e10:∀ g xs p dst d ids rbl r,(callM P blk g xs p dst d ids rbl r).isSome=true→callM P blk' g xs p dst d ids rbl r=callM P blk g xs p dst d ids rbl r:=fun g xs p dst d ids rbl r hx=>zcl (fun q hq=>zyd hb hq) hx
 have e9:∀ x,(zjw blk x).isSome=true→zjw blk' x=zjw blk x:=fun x hx=>zcl (fun r hr=>zvf hb hr) hx
 unfold mop0 at hv ⊢
 repeat' split at hv
 all_goals first
   | (cases hv;done)
   | (simp_all;done)
   | skip

theorem z2y (op:BinOp) (wr:Bool) (id:Nat) (y:LV):binL op wr (.own id) y=none:=by cases y<;>rfl
theorem z22 (P:Program) (op:BinOp) (T:TypeId) (id:Nat) (y:LV):binB P op T (.own id) y=none:=by
 unfold binB
 split<;>first | rfl | contradiction
theorem z2w (P:Program) (op:BinOp) (T:TypeId) (id:Nat) (y:Bool):binN P op T (.own id) y=none:=by
 unfold binN
 split<;>first | rfl | contradiction
theorem zyo (hs:Le sl sl') {o:Oper} {h:Hint} {r:LV×List Prop} (hv:vop2 P o sl blk=some r):vop P o sl' blk' h=none:=by
 have e1:∀ x q,ev sl x=some q→ev sl' x=some q:=fun x q hx=>zho hs hx
 unfold vop2 at hv
 repeat' split at hv
 all_goals first
   | (cases hv;done)
   | (simp_all [vop];done)
   | (simp only [vop, *,e1 _ _ ‹ev sl _=some (LV.own _,_)›,e1 _ _ ‹ev sl _=some (LV.nilS,_)›,z2y,z22,z2w,Option.map_none];done)
theorem zsq (hs:Le sl sl') (hb:Le blk blk') {o:Oper} {h:Hint} {r:LV×List Prop} (hv:vopA P o sl blk h=some r):vopA P o sl' blk' h=some r:=by
 unfold vopA at hv ⊢
 split at hv
 ·rename_i q hq
  rw [z1z hs hb hq]
  exact hv
 ·split at hv
  ·rename_i q hq
   rw [zyo hs (blk':=blk') hq]
   simp only [zyn hs hb hq]
   exact hv
  ·cases hv
theorem zta (hs:Le sl sl') {o:Oper} {h h':Hint} {r:MD} (hv:mop0 P o sl blk h=some r):vopA P o sl' blk' h'=none:=by
 have e1:∀ x,(ev sl x).isSome=true→ev sl' x=ev sl x:=fun x hx=>zcl (fun r hr=>zho hs hr) hx
 unfold mop0 at hv
 repeat' split at hv
 all_goals first
   | (cases hv;done)
   | (simp_all [vopA,vop,vop2];done)
   | skip
theorem zox (hs:Le sl sl') (hb:Le blk blk') {o:Oper} {h:Hint} {r:MD} (hv:mopN P o sl blk h=some r):mopN P o sl' blk' h=some r:=by
 unfold mopN at hv ⊢
 repeat' split at hv
 all_goals first
   | (cases hv;done)
   | (simp_all;done)
theorem zzt (hs:Le sl sl') (hb:Le blk blk') {o:Oper} {h h':Hint} {r:MD} (hv:mopN P o sl blk h=some r):vopA P o sl' blk' h'=none:=by
 unfold mopN at hv
 repeat' split at hv
 all_goals first
   | (cases hv;done)
   | (simp_all [vopA,vop,vop2];done)
theorem zv4 (hs:Le sl sl') (hb:Le blk blk') {o:Oper} {h:Hint} {r:MD} (hv:mop P o sl blk h=some r):mop P o sl' blk' h=some r:=by
 unfold mop at hv ⊢
 split at hv
 ·split at hv
  ·rename_i D0 h0
   rw [zoy hs hb h0];exact hv
  ·cases hv
 ·split at hv
  ·rename_i D0 h0
   rw [zoy hs hb h0];exact hv
  ·cases hv
 ·exact zox hs hb hv
 ·exact zox hs hb hv
 ·exact zox hs hb hv
 ·exact zoy hs hb hv
theorem zv5 (hs:Le sl sl') (hb:Le blk blk') {o:Oper} {h:Hint} {r:MD} (hv:mop P o sl blk h=some r):vopA P o sl' blk' h=none:=by
 rcases zit hv with hv | ⟨wk,id,n,row,D0,hi0,e,h0,h1⟩ | hv
 ·exact zta hs hv
 ·exact zta hs h0
 ·exact zzt hs hb hv
end
end Go.Lite
