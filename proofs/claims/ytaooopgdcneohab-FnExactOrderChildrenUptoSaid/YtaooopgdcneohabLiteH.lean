/- Straight stretches of code at one step, and what is kept behind them. Conditions: none; over any program. -/
import Derived.Test.YtaooopgdcneohabLiteG
set_option linter.unusedVariables false
namespace Go.Lite
open Go Go.RowKit

/-- The first k parts of a chain are left behind. -/
def dropK : Nat → Code → Code
  | 0, c => c
  | k + 1, c => match c with
    | .seq _ y => dropK k y
    | _ => .skip
/-- The first k parts of a chain, each a region in the order of the text. -/
def runK (P : Program) (N : Nat) (hints : List (Nat × Hint)) : Nat → Nat → Code → St → Option (St × List Prop)
  | 0, _, _, s => some (s, [])
  | k + 1, i, c, s => match c with
    | .seq (.region _ ops false) y => match runOps P N ops.toList hints ops.toList i s with
      | some (s1, p) => match runK P N hints k (i + 1000) y s1 with
        | some (s2, q) => some (s2, p ++ q)
        | none => none
      | none => none
    | .seq .skip y => runK P N hints k (i + 1000) y s
    | _ => none
def keepS (ts is : List Nat) (s : St) : St :=
  ⟨ts.filterMap fun t => (look s.slots t).map fun c => (t, c), is.filterMap fun t => (look s.blks t).map fun c => (t, c), s.used⟩

section
variable {P : Program} {c : Code} {n r : AP} {xs : List (Nat × AP)} {a : Act} {w : World} {N : Nat} {w0 : World} {X0 : Fr} {s : St}

theorem H.keep (hs : H N w0 X0 s a w) (ts is : List Nat) : H N w0 X0 (keepS ts is s) a w := by
  obtain ⟨E, hs⟩ := hs
  exact ⟨E, hs.weaken _ (fun t lv h => look_filterMap _ _ t lv h) (fun i c h => look_filterMap _ _ i c h) fun i h => h⟩

theorem W.runK {hints : List (Nat × Hint)} : ∀ {k i : Nat} {c : Code} {s s' : St} {vcs : List Prop} {a : Act} {w : World}, runK P N hints k i c s = some (s', vcs) → All vcs → H N w0 X0 s a w →
    (∀ a w, H N w0 X0 s' a w → W P (dropK k c) n r xs a w) → W P c n r xs a w
  | 0, i, c, s, s', vcs, a, w, hr, ha, hs, hn => by
    cases hr; exact hn a w hs
  | k + 1, i, c, s, s', vcs, a, w, hr, ha, hs, hn => by
    simp only [Lite.runK] at hr
    split at hr
    · rename_i id ops y
      split at hr
      · rename_i s1 p h1
        split at hr
        · rename_i s2 q h2
          cases hr
          obtain ⟨a1, a2⟩ := All.append.1 ha
          exact W.seq rfl (W.region hs rfl _ h1 a1 fun a w hs' => W.runK h2 a2 hs' hn)
        · cases hr
      · cases hr
    · exact W.seq rfl (W.skip rfl (W.runK hr ha hs hn))
    · cases hr

/-- A straight stretch. -/
theorem W.lin (hs : H N w0 X0 s a w) (k : Nat) (hints : List (Nat × Hint)) (ts is : List Nat) {s' : St} {vcs : List Prop} (he : Lite.runK P N hints k 0 c s = some (s', vcs)) (ha : All vcs) {s2 : St} (hk : keepS ts is s' = s2)
    (hn : ∀ a w, H N w0 X0 s2 a w → W P (dropK k c) n r xs a w) : W P c n r xs a w :=
  W.runK he ha hs fun a w hs' => hn a w (by rw [← hk]; exact hs'.keep ts is)

/-- A straight stretch, computed with what is kept: the state and the conditions. -/
def linK (P : Program) (N : Nat) (hints : List (Nat × Hint)) (k : Nat) (ts is : List Nat) (c : Code) (s : St) : Option (St × List Prop) :=
  match runK P N hints k 0 c s with
  | some (s', p) => some (keepS ts is s', p)
  | none => none
theorem W.linK (hs : H N w0 X0 s a w) (k : Nat) (hints : List (Nat × Hint)) (ts is : List Nat) {s2 : St} {vcs : List Prop} (he : Lite.linK P N hints k ts is c s = some (s2, vcs)) (ha : All vcs)
    (hn : ∀ a w, H N w0 X0 s2 a w → W P (dropK k c) n r xs a w) : W P c n r xs a w := by
  unfold Lite.linK at he
  split at he
  · rename_i s' p h1
    cases he
    exact W.lin hs k hints ts is h1 ha rfl hn
  · cases he
/-- One region, computed with what is kept. -/
def regK (P : Program) (N : Nat) (hints : List (Nat × Hint)) (ts is : List Nat) (c : Code) (s : St) : Option (St × List Prop) :=
  match runOps P N (opsOf c).toList hints (opsOf c).toList 0 s with
  | some (s', p) => some (keepS ts is s', p)
  | none => none
theorem W.regK (hs : H N w0 X0 s a w) (hc : isReg c = true) (hints : List (Nat × Hint)) (ts is : List Nat) {s2 : St} {vcs : List Prop} (he : Lite.regK P N hints ts is c s = some (s2, vcs)) (ha : All vcs)
    (hn : ∀ a w, H N w0 X0 s2 a w → n a w) : W P c n r xs a w := by
  unfold Lite.regK at he
  split at he
  · rename_i s' p h1
    cases he
    exact W.region hs hc hints h1 ha fun a w hs' => hn a w (hs'.keep ts is)
  · cases he
end
end Go.Lite
