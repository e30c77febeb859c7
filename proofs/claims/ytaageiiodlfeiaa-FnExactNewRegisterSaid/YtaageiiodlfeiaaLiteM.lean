/- What an operation does hangs on the claims that it reads alone: more claims, the same doing. Conditions: none; over any program. -/
import Derived.Test.YtaageiiodlfeiaaLiteL
set_option linter.unusedVariables false
namespace Go.Lite
open Go Go.RowKit

def Le {α : Type} (f g : Nat → Option α) : Prop := ∀ i x, f i = some x → g i = some x

section
variable {P : Program} {sl sl' : Nat → Option LV} {blk blk' : Nat → Option BC}

theorem isSome_of {α : Type} {x : Option α} {y : α} (h : x = some y) : x.isSome = true := by rw [h]; rfl
theorem eq_of_mono {α : Type} {x y : Option α} (h : ∀ r, x = some r → y = some r) (hx : x.isSome = true) : y = x := by
  cases x with
  | none => cases hx
  | some r => exact h r rfl

theorem ev_mono (hs : Le sl sl') {x : Operand} {r : LV × List Prop} (h : ev sl x = some r) : ev sl' x = some r := by
  cases x with
  | tmp t =>
    simp only [ev, Option.map_eq_some_iff] at h ⊢
    obtain ⟨v, h1, h2⟩ := h
    exact ⟨v, hs t v h1, h2⟩
  | _ => exact h
theorem evs_mono (hs : Le sl sl') : ∀ {xs : List Operand} {r : List LV × List Prop}, evs sl xs = some r → evs sl' xs = some r
  | [], r, h => h
  | x :: xs, r, h => by
    simp only [evs] at h ⊢
    split at h
    · rename_i h1 h2
      rw [ev_mono hs h1, evs_mono hs h2]; exact h
    · cases h
theorem evParts_mono (hs : Le sl sl') : ∀ {xs : List (Nat × Operand)} {r : List (Nat × List LV) × List Prop}, evParts sl xs = some r → evParts sl' xs = some r
  | [], r, h => h
  | x :: xs, r, h => by
    simp only [evParts] at h ⊢
    split at h
    · rename_i h1 h2
      rw [ev_mono hs h1, evParts_mono hs h2]; exact h
    · cases h
theorem optN_mono (hs : Le sl sl') {d : Nat} {x : Option Operand} {r : Int × List Prop} (h : optN sl d x = some r) : optN sl' d x = some r := by
  cases x with
  | none => exact h
  | some x =>
    simp only [optN] at h ⊢
    split at h
    · rename_i h1
      rw [ev_mono hs h1]; exact h
    · cases h
theorem lenL_mono (hb : Le blk blk') {T : TypeId} {x : LV} {n : Nat} (h : lenL P T blk x = some n) : lenL P T blk' x = some n := by
  have e3 : ∀ i, (blk i).isSome = true → blk' i = blk i := fun x hx => eq_of_mono (fun r hr => hb x r hr) hx
  unfold lenL at h ⊢
  repeat' split at h
  all_goals first
    | (cases h; done)
    | (simp_all; done)
mutual
theorem closeK_mono {kv kv' : Nat → Nat → Option LV} (hk : ∀ id off x, kv id off = some x → kv' id off = some x) (hb : Le blk blk') : ∀ {v x : LV}, closeK kv blk v = some x → closeK kv' blk' v = some x
  | .agg l, x, h => by
    simp only [closeK, Option.map_eq_some_iff] at h ⊢
    obtain ⟨y, h1, h2⟩ := h
    exact ⟨y, closeLK_mono hk hb h1, h2⟩
  | .tup l, x, h => by
    simp only [closeK, Option.map_eq_some_iff] at h ⊢
    obtain ⟨y, h1, h2⟩ := h
    exact ⟨y, closeLK_mono hk hb h1, h2⟩
  | .clo f l, x, h => by
    simp only [closeK, Option.map_eq_some_iff] at h ⊢
    obtain ⟨y, h1, h2⟩ := h
    exact ⟨y, closeLK_mono hk hb h1, h2⟩
  | .own id, x, h => by
    simp only [closeK] at h ⊢
    split at h
    · rename_i h1; rw [hb _ _ h1]; exact h
    · rename_i h1; rw [hb _ _ h1]; exact h
    · rename_i h0 h1
      rw [hb _ _ h1]
      split
      · rename_i e; cases e
      · rename_i e; cases e; exact (h0 rfl).elim
      · rename_i e; cases e; exact h
      · rename_i e; exact (e _ _ _ _ _ rfl).elim
    · cases h
  | .vp id off, x, h => by simp only [closeK] at h ⊢; exact hk _ _ _ h
  | .ap _ _ _ _, x, h => by simp [closeK] at h
  | .mp id, x, h => by
    simp only [closeK] at h ⊢
    split at h
    · rename_i h1; rw [hb _ _ h1]; exact h
    · cases h
  | .rm _ _, x, h => by simpa only [closeK] using h
  | .whn _ _, x, h => by simp [closeK] at h
  | .k _ _, x, h => by simpa only [closeK] using h
  | .er _, x, h => by simpa only [closeK] using h
  | .fv, x, h => by simpa only [closeK] using h
  | .any, x, h => by simpa only [closeK] using h
  | .ifc t v, x, h => by
    simp only [closeK, Option.map_eq_some_iff] at h ⊢
    obtain ⟨y, h1, h2⟩ := h
    exact ⟨y, closeK_mono hk hb h1, h2⟩
  | .ro _ sz n row, x, h => by simpa only [closeK] using h
  | .ep row off, x, h => by simpa only [closeK] using h
  | .int k n, x, h => by simpa only [closeK] using h
  | .bool b, x, h => by simpa only [closeK] using h
  | .str s, x, h => by simpa only [closeK] using h
  | .nilS, x, h => by simpa only [closeK] using h
  | .nilM, x, h => by simpa only [closeK] using h
  | .nilP, x, h => by simpa only [closeK] using h
  | .fn f, x, h => by simpa only [closeK] using h
theorem closeLK_mono {kv kv' : Nat → Nat → Option LV} (hk : ∀ id off x, kv id off = some x → kv' id off = some x) (hb : Le blk blk') : ∀ {v x : List LV}, closeLK kv blk v = some x → closeLK kv' blk' v = some x
  | [], x, h => by simpa only [closeLK] using h
  | v :: r, x, h => by
    simp only [closeLK] at h ⊢
    split at h
    · rename_i h1 h2
      rw [closeK_mono hk hb h1, closeLK_mono hk hb h2]; exact h
    · cases h
end
theorem kvN_mono (hb : Le blk blk') : ∀ (n id off : Nat) (x : LV), kvN blk n id off = some x → kvN blk' n id off = some x
  | 0, id, off, x, h => by cases h
  | n + 1, id, off, x, h => by
    simp only [kvN] at h ⊢
    split at h
    · rename_i cs h1
      rw [hb _ _ h1]
      split at h
      · rename_i l h2
        simp only [closeLK_mono (kvN_mono hb n) hb h2]; exact h
      · cases h
    · cases h
theorem closeL_mono (hb : Le blk blk') {v x : List LV} (h : closeL blk v = some x) : closeL blk' v = some x := closeLK_mono (kvN_mono hb 3) hb h
theorem frz_mono (hb : Le blk blk') {v : LV} {r : LV × List Nat} (h : frz blk v = some r) : frz blk' v = some r := by
  cases v with
  | own id =>
    simp only [frz] at h ⊢
    split at h
    · rename_i h1; rw [hb _ _ h1]; exact h
    · cases h
  | _ => first | exact h | cases h
theorem frzL_mono (hb : Le blk blk') : ∀ {v : List LV} {r : List LV × List Nat}, frzL blk v = some r → frzL blk' v = some r
  | [], r, h => h
  | v :: l, r, h => by
    simp only [frzL] at h ⊢
    split at h
    · rename_i h1 h2
      rw [frz_mono hb h1, frzL_mono hb h2]; exact h
    · cases h
theorem frzP_mono (hb : Le blk blk') : ∀ {v : List (Nat × List LV)} {r : List (Nat × List LV) × List Nat}, frzP blk v = some r → frzP blk' v = some r
  | [], r, h => h
  | v :: l, r, h => by
    simp only [frzP] at h ⊢
    split at h
    · rename_i h1 h2
      rw [frzL_mono hb h1, frzP_mono hb h2]; exact h
    · cases h
theorem arrOf_mono (hb : Le blk blk') {v : LV} {r : Nat × Nat × (Nat → List LV) × List Nat} (h : arrOf blk v = some r) : arrOf blk' v = some r := by
  cases v with
  | own id =>
    simp only [arrOf] at h ⊢
    split at h
    · rename_i h1; rw [hb _ _ h1]; exact h
    · cases h
  | _ => first | exact h | cases h

theorem preL_mono (hb : Le blk blk') {ids : List Nat} : ∀ {l : List Nat} {r : List BC}, preL blk ids l = some r → preL blk' ids l = some r
  | [], r, h => by cases h; rfl
  | i :: l, r, h => by
    simp only [preL] at h ⊢
    split at h
    · rename_i c q h1 h2
      rw [hb _ _ h1, preL_mono hb h2]; exact h
    · cases h
theorem callM_mono (hb : Le blk blk') {g : Nat} {xs : List LV} {p : List Prop} {dst : Bool} {d : Nat} {ids : List Nat} {rbl : List (Nat × BC)} {r : LV} {D : MD} (h : callM P blk g xs p dst d ids rbl r = some D) : callM P blk' g xs p dst d ids rbl r = some D := by
  unfold callM at h ⊢
  split at h
  · rename_i bl fn h1 h2
    rw [preL_mono hb h1, h2]; exact h
  · cases h
theorem vop_mono (hs : Le sl sl') (hb : Le blk blk') {o : Oper} {h : Hint} {r : LV × List Prop} (hv : vop P o sl blk h = some r) : vop P o sl' blk' h = some r := by
  have e1 : ∀ x, (ev sl x).isSome = true → ev sl' x = ev sl x := fun x hx => eq_of_mono (fun r hr => ev_mono hs hr) hx
  have e2 : ∀ x, (evs sl x).isSome = true → evs sl' x = evs sl x := fun x hx => eq_of_mono (fun r hr => evs_mono hs hr) hx
  have e3 : ∀ i, (blk i).isSome = true → blk' i = blk i := fun x hx => eq_of_mono (fun r hr => hb x r hr) hx
  have e4 : ∀ T x, (lenL P T blk x).isSome = true → lenL P T blk' x = lenL P T blk x := fun T x hx => eq_of_mono (fun r hr => lenL_mono hb hr) hx
  unfold vop at hv ⊢
  repeat' split at hv
  all_goals first
    | (cases hv; done)
    | (simp_all; done)
    | (rename_i q; rw [e1 _ (isSome_of q)]; simp only [q]; exact hv)
    | (rename_i q; rw [e1 _ (isSome_of q)]; simp only [q, Option.map_eq_some_iff] at hv ⊢; obtain ⟨n, h1, h2⟩ := hv; exact ⟨n, lenL_mono hb h1, h2⟩)

theorem vop2_mono (hs : Le sl sl') (hb : Le blk blk') {o : Oper} {r : LV × List Prop} (hv : vop2 P o sl blk = some r) : vop2 P o sl' blk' = some r := by
  have e1 : ∀ x, (ev sl x).isSome = true → ev sl' x = ev sl x := fun x hx => eq_of_mono (fun r hr => ev_mono hs hr) hx
  have e2 : ∀ x, (evParts sl x).isSome = true → evParts sl' x = evParts sl x := fun x hx => eq_of_mono (fun r hr => evParts_mono hs hr) hx
  have e3 : ∀ d x, (optN sl d x).isSome = true → optN sl' d x = optN sl d x := fun d x hx => eq_of_mono (fun r hr => optN_mono hs hr) hx
  have e4 : ∀ i, (blk i).isSome = true → blk' i = blk i := fun x hx => eq_of_mono (fun r hr => hb x r hr) hx
  unfold vop2 at hv ⊢
  repeat' split at hv
  all_goals first
    | (cases hv; done)
    | (simp_all; done)
    | (rename_i g first caps _
       cases hb9 : first.isEmpty with
       | true =>
         rw [hb9] at hv
         simp only [cond_true, Option.map_eq_some_iff] at hv ⊢
         obtain ⟨x, h1, h2⟩ := hv
         exact ⟨x, evs_mono hs h1, h2⟩
       | false => rw [hb9] at hv; cases hv)
    | (simp only [Option.map_eq_some_iff] at hv ⊢
       obtain ⟨x, h1, h2⟩ := hv
       exact ⟨x, ev_mono hs h1, h2⟩)

theorem mop0_mono (hs : Le sl sl') (hb : Le blk blk') {o : Oper} {h : Hint} {r : MD} (hv : mop0 P o sl blk h = some r) : mop0 P o sl' blk' h = some r := by
  have e1 : ∀ x, (ev sl x).isSome = true → ev sl' x = ev sl x := fun x hx => eq_of_mono (fun r hr => ev_mono hs hr) hx
  have e2 : ∀ x, (evs sl x).isSome = true → evs sl' x = evs sl x := fun x hx => eq_of_mono (fun r hr => evs_mono hs hr) hx
  have e3 : ∀ i, (blk i).isSome = true → blk' i = blk i := fun x hx => eq_of_mono (fun r hr => hb x r hr) hx
  have e4 : ∀ x, (evParts sl x).isSome = true → evParts sl' x = evParts sl x := fun x hx => eq_of_mono (fun r hr => evParts_mono hs hr) hx
  have e5 : ∀ d x, (optN sl d x).isSome = true → optN sl' d x = optN sl d x := fun d x hx => eq_of_mono (fun r hr => optN_mono hs hr) hx
  have e6 : ∀ x, (frzL blk x).isSome = true → frzL blk' x = frzL blk x := fun x hx => eq_of_mono (fun r hr => frzL_mono hb hr) hx
  have e7 : ∀ x, (frzP blk x).isSome = true → frzP blk' x = frzP blk x := fun x hx => eq_of_mono (fun r hr => frzP_mono hb hr) hx
  have e8 : ∀ x, (arrOf blk x).isSome = true → arrOf blk' x = arrOf blk x := fun x hx => eq_of_mono (fun r hr => arrOf_mono hb hr) hx
  have e10 : ∀ g xs p dst d ids rbl r, (callM P blk g xs p dst d ids rbl r).isSome = true → callM P blk' g xs p dst d ids rbl r = callM P blk g xs p dst d ids rbl r := fun g xs p dst d ids rbl r hx => eq_of_mono (fun q hq => callM_mono hb hq) hx
  have e9 : ∀ x, (closeL blk x).isSome = true → closeL blk' x = closeL blk x := fun x hx => eq_of_mono (fun r hr => closeL_mono hb hr) hx
  unfold mop0 at hv ⊢
  repeat' split at hv
  all_goals first
    | (cases hv; done)
    | (simp_all; done)
    | skip

theorem binL_own (op : BinOp) (wr : Bool) (id : Nat) (y : LV) : binL op wr (.own id) y = none := by cases y <;> rfl
theorem binB_own (P : Program) (op : BinOp) (T : TypeId) (id : Nat) (y : LV) : binB P op T (.own id) y = none := by
  unfold binB
  split <;> first | rfl | contradiction
theorem binN_own (P : Program) (op : BinOp) (T : TypeId) (id : Nat) (y : Bool) : binN P op T (.own id) y = none := by
  unfold binN
  split <;> first | rfl | contradiction
theorem vop2_excl (hs : Le sl sl') {o : Oper} {h : Hint} {r : LV × List Prop} (hv : vop2 P o sl blk = some r) : vop P o sl' blk' h = none := by
  have e1 : ∀ x q, ev sl x = some q → ev sl' x = some q := fun x q hx => ev_mono hs hx
  unfold vop2 at hv
  repeat' split at hv
  all_goals first
    | (cases hv; done)
    | (simp_all [vop]; done)
    | (simp only [vop, *, e1 _ _ ‹ev sl _ = some (LV.own _, _)›, e1 _ _ ‹ev sl _ = some (LV.nilS, _)›, binL_own, binB_own, binN_own, Option.map_none]; done)
theorem vopA_mono (hs : Le sl sl') (hb : Le blk blk') {o : Oper} {h : Hint} {r : LV × List Prop} (hv : vopA P o sl blk h = some r) : vopA P o sl' blk' h = some r := by
  unfold vopA at hv ⊢
  split at hv
  · rename_i q hq
    rw [vop_mono hs hb hq]
    exact hv
  · split at hv
    · rename_i q hq
      rw [vop2_excl hs (blk' := blk') hq]
      simp only [vop2_mono hs hb hq]
      exact hv
    · cases hv
theorem mop0_excl (hs : Le sl sl') {o : Oper} {h h' : Hint} {r : MD} (hv : mop0 P o sl blk h = some r) : vopA P o sl' blk' h' = none := by
  have e1 : ∀ x, (ev sl x).isSome = true → ev sl' x = ev sl x := fun x hx => eq_of_mono (fun r hr => ev_mono hs hr) hx
  unfold mop0 at hv
  repeat' split at hv
  all_goals first
    | (cases hv; done)
    | (simp_all [vopA, vop, vop2]; done)
    | skip
theorem nrOne_mono (hb : Le blk blk') {v : LV} {r : Option Nat × NR × List Nat} (h : nrOne blk v = some r) : nrOne blk' v = some r := by
  unfold nrOne at h ⊢
  split at h
  · split at h
    · rename_i h1; rw [hb _ _ h1]; exact h
    · cases h
  · exact h
theorem nrsGo_mono (hb : Le blk blk') {sz : Nat} : ∀ {cs : List LV} {r : List NR × List Nat}, nrsGo blk sz cs = some r → nrsGo blk' sz cs = some r ∧ szOfs blk' cs = szOfs blk cs
  | [], r, h => ⟨h, rfl⟩
  | v :: cs, r, h => by
    simp only [nrsGo] at h
    split at h
    · rename_i s x is xs js h1 h2
      obtain ⟨k1, k2⟩ := nrsGo_mono hb h2
      have k3 := nrOne_mono hb h1
      refine ⟨by simp only [nrsGo, k3, k1]; exact h, ?_⟩
      simp only [szOfs, k3, h1, k2]
    · cases h
theorem nrsOf_mono (hb : Le blk blk') {cs : List LV} {r : Nat × List NR × List Nat} (h : nrsOf blk cs = some r) : nrsOf blk' cs = some r := by
  unfold nrsOf at h ⊢
  obtain ⟨x, h1, h2⟩ := Option.map_eq_some_iff.1 h
  obtain ⟨k1, k2⟩ := nrsGo_mono hb h1
  rw [k2, k1]
  exact congrArg some h2
theorem mopN_mono (hs : Le sl sl') (hb : Le blk blk') {o : Oper} {h : Hint} {r : MD} (hv : mopN P o sl blk h = some r) : mopN P o sl' blk' h = some r := by
  have e1 : ∀ x, (ev sl x).isSome = true → ev sl' x = ev sl x := fun x hx => eq_of_mono (fun r hr => ev_mono hs hr) hx
  have e3 : ∀ i, (blk i).isSome = true → blk' i = blk i := fun x hx => eq_of_mono (fun r hr => hb x r hr) hx
  have e4 : ∀ x, (evParts sl x).isSome = true → evParts sl' x = evParts sl x := fun x hx => eq_of_mono (fun r hr => evParts_mono hs hr) hx
  have e5 : ∀ x, (nrsOf blk x).isSome = true → nrsOf blk' x = nrsOf blk x := fun x hx => eq_of_mono (fun r hr => nrsOf_mono hb hr) hx
  unfold mopN at hv ⊢
  repeat' split at hv
  all_goals first
    | (cases hv; done)
    | (simp_all; done)
    | skip
theorem mopN_excl (hs : Le sl sl') (hb : Le blk blk') {o : Oper} {h h' : Hint} {r : MD} (hv : mopN P o sl blk h = some r) : vopA P o sl' blk' h' = none := by
  have e1 : ∀ x, (ev sl x).isSome = true → ev sl' x = ev sl x := fun x hx => eq_of_mono (fun r hr => ev_mono hs hr) hx
  have e3 : ∀ i, (blk i).isSome = true → blk' i = blk i := fun x hx => eq_of_mono (fun r hr => hb x r hr) hx
  unfold mopN at hv
  repeat' split at hv
  all_goals first
    | (cases hv; done)
    | (simp_all [vopA, vop, vop2]; done)
    | skip
theorem mop_mono (hs : Le sl sl') (hb : Le blk blk') {o : Oper} {h : Hint} {r : MD} (hv : mop P o sl blk h = some r) : mop P o sl' blk' h = some r := by
  unfold mop at hv ⊢
  split at hv
  · split at hv
    · rename_i D0 h0
      rw [mop0_mono hs hb h0]; exact hv
    · cases hv
  · split at hv
    · rename_i D0 h0
      rw [mop0_mono hs hb h0]; exact hv
    · cases hv
  · exact mopN_mono hs hb hv
  · exact mopN_mono hs hb hv
  · exact mopN_mono hs hb hv
  · exact mop0_mono hs hb hv
theorem mop_excl (hs : Le sl sl') (hb : Le blk blk') {o : Oper} {h : Hint} {r : MD} (hv : mop P o sl blk h = some r) : vopA P o sl' blk' h = none := by
  rcases mop_cases hv with hv | ⟨wk, id, n, row, D0, hi0, e, h0, h1⟩ | hv
  · exact mop0_excl hs hv
  · exact mop0_excl hs h0
  · exact mopN_excl hs hb hv
end
end Go.Lite
