/- Loops as plain functions: what is left to do, as a value. Conditions: none. -/
import Derived.Test.YtepefimocflfkabDoorLiteL
set_option linter.unusedVariables false
set_option linter.unusedSimpArgs false
namespace Go.Lite
open Go Go.RowKit

theorem ct {α : Type} {c : Bool} {x y R : α} (h : (bif c then x else y) = R) (hc : c = true) : x = R := by subst hc; exact h
theorem cf {α : Type} {c : Bool} {x y R : α} (h : (bif c then x else y) = R) (hc : c = false) : y = R := by subst hc; exact h

section
variable {S α : Type} {body : Nat → S → (S → α) → α} {k : S → α} {R : α} {s : S} {i n : Nat}
variable {P : Program} {c : Code} {n' r : AP} {xs : List (Nat × AP)} {a : Act} {w : World} {N : Nat} {w0 : World} {X0 : Fr}
end

/-- A loop of m rounds at most: a round goes on by its last argument. -/
def loopW {S α : Type} [Inhabited α] (body : S → (S → α) → α) : Nat → S → α
  | 0, _ => default
  | m + 1, s => body s (loopW body m)
/-- What follows where ways meet again. -/
def jn {S α : Type} (f : (S → α) → α) (k : S → α) : α := f k

section
variable {S α : Type} [Inhabited α] {body : S → (S → α) → α} {R : α}
variable {P : Program} {c : Code} {n' r : AP} {xs : List (Nat × AP)} {a : Act} {w : World} {N : Nat} {w0 : World} {X0 : Fr}
end
/-- Ways meet again. -/
theorem W.join {S α : Type} {f : (S → α) → α} {k : S → α} {R : α} {P : Program} {c : Code} {n r : AP} {xs : List (Nat × AP)} {a : Act} {w : World} {N : Nat} {w0 : World} {X0 : Fr} (hR : jn f k = R) (hc : isSeq c = true) (st : S → St) (J : S → Prop)
    (h1 : f k = R → W P (c1 c) (fun a w => ∃ v, k v = R ∧ J v ∧ H N w0 X0 (st v) a w) r xs a w) (h2 : ∀ v a w, k v = R → J v → H N w0 X0 (st v) a w → W P (c2 c) n r xs a w) : W P c n r xs a w :=
  W.seqM hc _ (h1 hR) fun a w ⟨v, q1, q2, q3⟩ => h2 v a w q1 q2 q3

/-! ### Rows of lists -/
section
variable {α : Type} [Inhabited α] (f : α → List LV)
end

/-! ### Elements of lists -/
theorem getD_set {α : Type} (l : List α) (i k : Nat) (x d : α) : (l.set i x).getD k d = if k = i ∧ i < l.length then x else l.getD k d := by
  simp only [List.getD_eq_getElem?_getD]
  by_cases h : k = i
  · subst h
    by_cases h2 : k < l.length
    · simp [h2]
    · simp [h2]
  · rw [List.getElem?_set_ne (Ne.symm h)]
    simp [h]
/-- A list of n numbers, each of which is right for its place. -/
structure Rg (l : List Int) (n : Nat) (f : Nat → Int → Prop) : Prop where
  len : l.length = n
  get : ∀ k, k < n → f k (l.getD k default)
theorem Rg.set {l : List Int} {n i : Nat} {f : Nat → Int → Prop} {x : Int} (h : Rg l n f) (hx : i < n → f i x) : Rg (l.set i x) n f :=
  ⟨by rw [List.length_set]; exact h.len, fun k hk => by
    rw [getD_set]
    split
    · rename_i e; rw [e.1]; exact hx (by rw [← e.1]; exact hk)
    · exact h.get k hk⟩
theorem Rg.mono {l : List Int} {n : Nat} {f g : Nat → Int → Prop} (h : Rg l n f) (hg : ∀ k x, k < n → f k x → g k x) : Rg l n g := ⟨h.len, fun k hk => hg k _ hk (h.get k hk)⟩

end Go.Lite
