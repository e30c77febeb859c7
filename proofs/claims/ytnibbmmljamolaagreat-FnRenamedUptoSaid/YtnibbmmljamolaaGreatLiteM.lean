/- What an operation does hangs on the claims that it reads alone: more claims, the same doing. Conditions: none; over any program. -/
import Derived.Test.YtnibbmmljamolaaGreatLiteL
set_option linter.unusedVariables false
namespace Go.Lite
open Go Go.RowKit

def Le{α:Type}(f g:Nat→Option α):Prop:=∀i x,f i=some x→g i=some x

section
variable {P:Program} {sl sl':Nat→Option LV} {blk blk':Nat→Option BC}

theorem zt2{α:Type}{x:Option α}{y:α}(h:x=some y):x.isSome=true:=by rw[h];rfl
theorem zbe{α : Type}{x y : Option α}(h : ∀r, x = some r → y = some r)(hx : x.isSome = true) : y = x := by
 cases x with
 |none =>cases hx
 |some r =>exact h r rfl

theorem zgm(hs : Le sl sl'){x : Operand}{r : LV × List Prop}(h : ev sl x = some r) : ev sl' x = some r := by
 cases x with
 | tmp t =>simp only[ev,ou] at h ⊢;obtain⟨v,h1,h2⟩:=h;exact⟨v,hs t v h1,h2⟩
 |_ =>exact h
theorem znq(hs : Le sl sl') : ∀{xs : List Operand} {r : List LV × List Prop}, evs sl xs = some r → evs sl' xs = some r
  |[],r,h=>h
  |x :: xs, r, h => by
    simp only[evs] at h ⊢
    split at h
    · rename_i h1 h2
      rw[zgm hs h1,znq hs h2];exact h
    · cases h
theorem zg3(hs : Le sl sl') : ∀{xs : List (Nat × Operand)} {r : List (Nat × List LV) × List Prop}, zcg sl xs = some r → zcg sl' xs = some r
  |[],r,h=>h
  |x :: xs, r, h => by
    simp only[zcg] at h ⊢
    split at h
    · rename_i h1 h2
      rw[zgm hs h1,zg3 hs h2];exact h
    · cases h
theorem zti(hs : Le sl sl'){d : Nat}{x : Option Operand}{r : Int × List Prop}(h : optN sl d x = some r) : optN sl' d x = some r := by
 cases x with
 |none =>exact h
 |some x =>
  simp only[optN] at h ⊢;split at h
  ·rename_i h1;rw [zgm hs h1]; exact h
  cases h
theorem z0s(hb:Le blk blk'){T:TypeId}{x:LV}{n:Nat}(h:lenL P T blk x=some n):lenL P T blk' x=some n:=by have e3:∀i,(blk i).isSome=true→blk' i=blk i:=fun x hx=>zbe (fun r hr=>hb x r hr) hx;unfold lenL at h ⊢;grind
mutual
theorem zpf{kv kv' : Nat → Nat → Option LV}(hk : ∀id off x, kv id off = some x → kv' id off = some x)(hb : Le blk blk') : ∀{v x : LV}, zbk kv blk v = some x → zbk kv' blk' v = some x
  |.agg l, x, h => by
    simp only[zbk,ou] at h ⊢
    obtain⟨y,h1,h2⟩:=h
    exact⟨y,zeu hk hb h1,h2⟩
  |.tup l, x, h => by
    simp only[zbk,ou] at h ⊢
    obtain⟨y,h1,h2⟩:=h
    exact⟨y,zeu hk hb h1,h2⟩
  |.clo f l, x, h => by
    simp only[zbk,ou] at h ⊢
    obtain⟨y,h1,h2⟩:=h
    exact⟨y,zeu hk hb h1,h2⟩
  |.own id, x, h => by
    simp only[zbk] at h ⊢
    split at h
    · rename_i h1;rw [hb _ _ h1];exact h
    · rename_i h1;rw [hb _ _ h1];exact h
    · rename_i h0 h1
      rw[hb _ _ h1]
      split
      · rename_i e;cases e
      · rename_i e;cases e;exact (h0 rfl).elim
      · rename_i e;cases e;exact h
      · rename_i e;exact (e _ _ _ _ _ rfl).elim
    · cases h
  | .vp id off,x,h=>by simp only[zbk] at h ⊢;exact hk _ _ _ h
  |.ap _ _ _ _,x,h=>by simp[zbk] at h
  |.mp id, x, h => by
    simp only[zbk] at h ⊢
    split at h
    · rename_i h1;rw [hb _ _ h1];exact h
    · cases h
  |.rm _ _,x,h=>by simpa only[zbk] using h
  |.whn _ _,x,h=>by simp[zbk] at h
  |.k _ _,x,h=>by simpa only[zbk] using h
  |.er _,x,h=>by simpa only[zbk] using h
  |.fv,x,h=>by simpa only[zbk] using h
  |.any,x,h=>by simpa only[zbk] using h
  |.ifc t v, x, h => by
    simp only[zbk,ou] at h ⊢
    obtain⟨y,h1,h2⟩:=h
    exact⟨y,zpf hk hb h1,h2⟩
  |.ro _ sz n row,x,h=>by simpa only[zbk] using h
  |.ep row off,x,h=>by simpa only[zbk] using h
  |.int k n,x,h=>by simpa only[zbk] using h
  |.bool b,x,h=>by simpa only[zbk] using h
  |.str s,x,h=>by simpa only[zbk] using h
  |.nilS,x,h=>by simpa only[zbk] using h
  |.nilM,x,h=>by simpa only[zbk] using h
  |.nilP,x,h=>by simpa only[zbk] using h
  |.fn f,x,h=>by simpa only[zbk] using h
theorem zeu{kv kv' : Nat → Nat → Option LV}(hk : ∀id off x, kv id off = some x → kv' id off = some x)(hb : Le blk blk') : ∀{v x : List LV}, zfh kv blk v = some x → zfh kv' blk' v = some x
  |[],x,h=>by simpa only[zfh] using h
  |v :: r, x, h => by
    simp only[zfh] at h ⊢
    split at h
    · rename_i h1 h2
      rw[zpf hk hb h1,zeu hk hb h2];exact h
    · cases h
end
theorem zxg(hb : Le blk blk') : ∀(n id off : Nat) (x : LV), kvN blk n id off = some x → kvN blk' n id off = some x
  |0,id,off,x,h=>by cases h
  |n + 1, id, off, x, h => by
    simp only[kvN] at h ⊢
    split at h
    · rename_i cs h1
      rw[hb _ _ h1]
      split at h
      · rename_i l h2
        simp only[zeu (zxg hb n) hb h2];exact h
      · cases h
    · cases h
theorem zv5(hb:Le blk blk'){v x:List LV}(h:zj1 blk v=some x):zj1 blk' v=some x:=zeu (zxg hb 3) hb h
theorem zxr(hb : Le blk blk'){v : LV}{r : LV × List Nat}(h : frz blk v = some r) : frz blk' v = some r := by
 cases v with
 |own id =>
  simp only[frz] at h ⊢;split at h
  ·rename_i h1; rw [hb _ _ h1]; exact h
  cases h
 |_ =>first|exact h|cases h
theorem zpb(hb : Le blk blk') : ∀{v : List LV} {r : List LV × List Nat}, frzL blk v = some r → frzL blk' v = some r
  |[],r,h=>h
  |v :: l, r, h => by
    simp only[frzL] at h ⊢
    split at h
    · rename_i h1 h2
      rw[zxr hb h1,zpb hb h2];exact h
    · cases h
theorem zub(hb : Le blk blk') : ∀{v : List (Nat × List LV)} {r : List (Nat × List LV) × List Nat}, frzP blk v = some r → frzP blk' v = some r
  |[],r,h=>h
  |v :: l, r, h => by
    simp only[frzP] at h ⊢
    split at h
    · rename_i h1 h2
      rw[zpb hb h1,zub hb h2];exact h
    · cases h
theorem zzc(hb : Le blk blk'){v : LV}{r : Nat × Nat × (Nat → List LV) × List Nat}(h : arrOf blk v = some r) : arrOf blk' v = some r := by
 cases v with
 |own id =>
  simp only[arrOf] at h ⊢;split at h
  ·rename_i h1; rw [hb _ _ h1]; exact h
  cases h
 |_ =>first|exact h|cases h

theorem ztf(hb : Le blk blk'){ids : List Nat} : ∀{l : List Nat} {r : List BC}, preL blk ids l = some r → preL blk' ids l = some r
  |[],r,h=>by cases h;rfl
  |i :: l, r, h => by
    simp only[preL] at h ⊢
    split at h
    · rename_i c q h1 h2
      rw[hb _ _ h1,ztf hb h2];exact h
    · cases h
theorem zy9(hb : Le blk blk'){g : Nat}{xs : List LV}{p : List Prop}{dst : Bool}{d : Nat}{ids : List Nat}{rbl : List (Nat × BC)}{r : LV}{D : MD}(h : callM P blk g xs p dst d ids rbl r = some D) : callM P blk' g xs p dst d ids rbl r = some D := by
 unfold callM at h ⊢;split at h
 ·rename_i bl fn h1 h2;rw [ztf hb h1, h2]; exact h
 cases h
theorem z2l(hs:Le sl sl')(hb:Le blk blk'){o:Oper}{h:Hint}{r:LV×List Prop}(hv:vop P o sl blk h=some r):vop P o sl' blk' h=some r:=by have e1:∀x,(ev sl x).isSome=true→ev sl' x=ev sl x:=fun x hx=>zbe (fun r hr=>zgm hs hr) hx;have e2:∀x,(evs sl x).isSome=true→evs sl' x=evs sl x:=fun x hx=>zbe (fun r hr=>znq hs hr) hx;have e3:∀i,(blk i).isSome=true→blk' i=blk i:=fun x hx=>zbe (fun r hr=>hb x r hr) hx;unfold vop at hv ⊢;(repeat' split at hv);all_goals first | (cases hv;done) | (simp_all;done) | (rename_i q;rw[e1 _ (zt2 q)];simp only[q];exact hv) | (rename_i q;rw[e1 _ (zt2 q)];simp only[q,ou] at hv ⊢;obtain⟨n,h1,h2⟩:=hv;exact⟨n,z0s hb h1,h2⟩)

theorem zzh(hs : Le sl sl')(hb : Le blk blk'){o : Oper}{r : LV × List Prop}(hv : vop2 P o sl blk = some r) : vop2 P o sl' blk' = some r := by
 have e1:∀x,(ev sl x).isSome=true→ev sl' x=ev sl x:=fun x hx=>zbe (fun r hr=>zgm hs hr) hx;have e2:∀x,(zcg sl x).isSome=true→zcg sl' x=zcg sl x:=fun x hx=>zbe (fun r hr=>zg3 hs hr) hx;have e3:∀d x,(optN sl d x).isSome=true→optN sl' d x=optN sl d x:=fun d x hx=>zbe (fun r hr=>zti hs hr) hx;have e4:∀i,(blk i).isSome=true→blk' i=blk i:=fun x hx=>zbe (fun r hr=>hb x r hr) hx;unfold vop2 at hv ⊢;repeat' split at hv
 all_goals first
   |(cases hv;done)
   |(simp_all;done)
   | (rename_i g first caps _
      cases hb9:first.isEmpty with
      |true =>
        rw[hb9] at hv
        simp only[oE,ou] at hv ⊢
        obtain⟨x,h1,h2⟩:=hv
        exact⟨x,znq hs h1,h2⟩
      |false=>rw[hb9] at hv;cases hv)
   | (simp only [ou] at hv ⊢
      obtain⟨x,h1,h2⟩:=hv
      exact⟨x,zgm hs h1,h2⟩)

theorem zow(hs:Le sl sl')(hb:Le blk blk'){o:Oper}{h:Hint}{r:MD}(hv:mop0 P o sl blk h=some r):mop0 P o sl' blk' h=some r:=by have e1:∀x,(ev sl x).isSome=true→ev sl' x=ev sl x:=fun x hx=>zbe (fun r hr=>zgm hs hr) hx;have e2:∀x,(evs sl x).isSome=true→evs sl' x=evs sl x:=fun x hx=>zbe (fun r hr=>znq hs hr) hx;have e3:∀i,(blk i).isSome=true→blk' i=blk i:=fun x hx=>zbe (fun r hr=>hb x r hr) hx;have e4:∀x,(zcg sl x).isSome=true→zcg sl' x=zcg sl x:=fun x hx=>zbe (fun r hr=>zg3 hs hr) hx;have e5:∀d x,(optN sl d x).isSome=true→optN sl' d x=optN sl d x:=fun d x hx=>zbe (fun r hr=>zti hs hr) hx;have e6:∀x,(frzL blk x).isSome=true→frzL blk' x=frzL blk x:=fun x hx=>zbe (fun r hr=>zpb hb hr) hx;have e7:∀x,(frzP blk x).isSome=true→frzP blk' x=frzP blk x:=fun x hx=>zbe (fun r hr=>zub hb hr) hx;have e8:∀x,(arrOf blk x).isSome=true→arrOf blk' x=arrOf blk x:=fun x hx=>zbe (fun r hr=>zzc hb hr) hx;have e10:∀g xs p dst d ids rbl r,(callM P blk g xs p dst d ids rbl r).isSome=true→callM P blk' g xs p dst d ids rbl r=callM P blk g xs p dst d ids rbl r:=fun g xs p dst d ids rbl r hx=>zbe (fun q hq=>zy9 hb hq) hx;have e9:∀x,(zj1 blk x).isSome=true→zj1 blk' x=zj1 blk x:=fun x hx=>zbe (fun r hr=>zv5 hb hr) hx;unfold mop0 at hv ⊢;(repeat' split at hv);all_goals first | (cases hv;done) | (simp_all;done) | skip

theorem z3r(op:BinOp)(wr:Bool)(id:Nat)(y:LV):binL op wr (.own id) y=none:=by cases y<;>rfl
theorem z3t(P:Program)(op:BinOp)(T:TypeId)(id:Nat)(y:LV):binB P op T (.own id) y=none:=by unfold binB;split<;>first|rfl|contradiction
theorem z3p(P:Program)(op:BinOp)(T:TypeId)(id:Nat)(y:Bool):binN P op T (.own id) y=none:=by unfold binN;split<;>first|rfl|contradiction
theorem zzi(hs:Le sl sl'){o:Oper}{h:Hint}{r:LV×List Prop}(hv:vop2 P o sl blk=some r):vop P o sl' blk' h=none:=by have e1:∀x q,ev sl x=some q→ev sl' x=some q:=fun x q hx=>zgm hs hx;unfold vop2 at hv;(repeat' split at hv);all_goals first|(cases hv;done)|(simp_all [vop];done)|(simp only[vop, *,e1 _ _ ‹ev sl _=some (LV.own _,_)›,e1 _ _ ‹ev sl _=some (LV.nilS,_)›,z3r,z3t,z3p,Option.map_none];done)
theorem zs8(hs : Le sl sl')(hb : Le blk blk'){o : Oper}{h : Hint}{r : LV × List Prop}(hv : vopA P o sl blk h = some r) : vopA P o sl' blk' h = some r := by
 unfold vopA at hv ⊢;split at hv
 ·rename_i q hq;rw [z2l hs hb hq];exact hv
 split at hv
 ·rename_i q hq;rw [zzi hs (blk' := blk') hq];simp only [zzh hs hb hq];exact hv
 cases hv
theorem zts(hs:Le sl sl'){o:Oper}{h h':Hint}{r:MD}(hv:mop0 P o sl blk h=some r):vopA P o sl' blk' h'=none:=by have e1:∀x,(ev sl x).isSome=true→ev sl' x=ev sl x:=fun x hx=>zbe (fun r hr=>zgm hs hr) hx;unfold mop0 at hv;(repeat' split at hv);all_goals first|(cases hv;done)|(simp_all [vopA,vop,vop2];done)|skip
theorem zyr(hb : Le blk blk'){v : LV}{r : Option Nat × NR × List Nat}(h : nrOne blk v = some r) : nrOne blk' v = some r := by
 unfold nrOne at h ⊢;split at h
 ·split at h
  ·rename_i h1; rw [hb _ _ h1]; exact h
  cases h
 exact h
theorem zqr(hb : Le blk blk'){sz : Nat} : ∀{cs : List LV} {r : List NR × List Nat}, nrsGo blk sz cs = some r → nrsGo blk' sz cs = some r ∧ szOfs blk' cs = szOfs blk cs
  |[],r,h=>⟨h,rfl⟩
  |v :: cs, r, h => by
    simp only[nrsGo] at h
    split at h
    · rename_i s x is xs js h1 h2
      obtain⟨k1,k2⟩:=zqr hb h2
      have k3:=zyr hb h1
      refine⟨by simp only[nrsGo,k3,k1];exact h,?_⟩
      simp only[szOfs,k3,h1,k2]
    · cases h
theorem zyp(hb:Le blk blk'){cs:List LV}{r:Nat×List NR×List Nat}(h:nrsOf blk cs=some r):nrsOf blk' cs=some r:=by unfold nrsOf at h ⊢;obtain⟨x,h1,h2⟩:=ou.1 h;obtain⟨k1,k2⟩:=zqr hb h1;grind
theorem zk9(hs:Le sl sl')(hb:Le blk blk'){o:Oper}{h:Hint}{r:MD}(hv:mopN P o sl blk h=some r):mopN P o sl' blk' h=some r:=by have e1:∀x,(ev sl x).isSome=true→ev sl' x=ev sl x:=fun x hx=>zbe (fun r hr=>zgm hs hr) hx;have e3:∀i,(blk i).isSome=true→blk' i=blk i:=fun x hx=>zbe (fun r hr=>hb x r hr) hx;have e4:∀x,(zcg sl x).isSome=true→zcg sl' x=zcg sl x:=fun x hx=>zbe (fun r hr=>zg3 hs hr) hx;have e5:∀x,(nrsOf blk x).isSome=true→nrsOf blk' x=nrsOf blk x:=fun x hx=>zbe (fun r hr=>zyp hb hr) hx;unfold mopN at hv ⊢;(repeat' split at hv);all_goals first | (cases hv;done) | (simp_all;done) | skip
theorem z0o(hs:Le sl sl')(hb:Le blk blk'){o:Oper}{h h':Hint}{r:MD}(hv:mopN P o sl blk h=some r):vopA P o sl' blk' h'=none:=by have e1:∀x,(ev sl x).isSome=true→ev sl' x=ev sl x:=fun x hx=>zbe (fun r hr=>zgm hs hr) hx;have e3:∀i,(blk i).isSome=true→blk' i=blk i:=fun x hx=>zbe (fun r hr=>hb x r hr) hx;unfold mopN at hv;(repeat' split at hv);all_goals first|(cases hv;done)|(simp_all [vopA,vop,vop2];done)|skip
theorem zxa(hs : Le sl sl')(hb : Le blk blk'){o : Oper}{h : Hint}{r : MD}(hv : mop P o sl blk h = some r) : mop P o sl' blk' h = some r := by
 unfold mop at hv ⊢;split at hv
 ·split at hv
  ·rename_i D0 h0;rw [zow hs hb h0]; exact hv
  cases hv
 ·split at hv
  ·rename_i D0 h0;rw [zow hs hb h0]; exact hv
  cases hv
 ·exact zk9 hs hb hv
 ·exact zk9 hs hb hv
 ·exact zk9 hs hb hv
 ·exact zk9 hs hb hv
 exact zow hs hb hv
theorem zxb(hs : Le sl sl')(hb : Le blk blk'){o : Oper}{h : Hint}{r : MD}(hv : mop P o sl blk h = some r) : vopA P o sl' blk' h = none := by
 rcases ziw hv with hv | ⟨wk,id,n,row,D0,hi0,e,h0,h1⟩ | hv
 ·exact zts hs hv
 ·exact zts hs h0
 exact z0o hs hb hv
end
end Go.Lite
