/- Loops as plain functions: what is left to do, as a value. Conditions: none. -/
import Derived.Test.YtepefimocflfkabDoorLiteL
set_option linter.unusedVariables false
set_option linter.unusedSimpArgs false
namespace Go.Lite
open Go Go.RowKit

/-- A loop over i, i + 1, .., m rounds at most: a round goes on by its last argument. -/
def loopN {S α : Type} (body : Nat → S → (S → α) → α) (k : S → α) : Nat → Nat → S → α
  | 0, _, s => k s
  | m + 1, i, s => body i s fun s' => loopN body k m (i + 1) s'

theorem ct {α : Type} {c : Bool} {x y R : α} (h : (bif c then x else y) = R) (hc : c = true) : x = R := by subst hc; exact h
theorem cf {α : Type} {c : Bool} {x y R : α} (h : (bif c then x else y) = R) (hc : c = false) : y = R := by subst hc; exact h

section
variable {S α : Type} {body : Nat → S → (S → α) → α} {k : S → α} {R : α} {s : S} {i n : Nat}
theorem loopN_step (h : loopN body k (n - i) i s = R) (hi : i < n) : body i s (fun s' => loopN body k (n - (i + 1)) (i + 1) s') = R := by
  have e : n - i = (n - (i + 1)) + 1 := by omega
  rw [e] at h
  exact h
theorem loopN_end (h : loopN body k (n - i) i s = R) (hi : ¬ i < n) : k s = R := by
  have e : n - i = 0 := by omega
  rw [e] at h
  exact h
variable {P : Program} {c : Code} {n' r : AP} {xs : List (Nat × AP)} {a : Act} {w : World} {N : Nat} {w0 : World} {X0 : Fr}
end

/-- A loop of m rounds at most: a round goes on by its last argument. -/
def loopW {S α : Type} [Inhabited α] (body : S → (S → α) → α) : Nat → S → α
  | 0, _ => default
  | m + 1, s => body s (loopW body m)
/-- What follows where ways meet again. -/
def jn {S α : Type} (f : (S → α) → α) (k : S → α) : α := f k

section
variable {S α : Type} [Inhabited α] {body : S → (S → α) → α} {R : α}
variable {P : Program} {c : Code} {n' r : AP} {xs : List (Nat × AP)} {a : Act} {w : World} {N : Nat} {w0 : World} {X0 : Fr}
end
/-- Ways meet again. -/
theorem W.join {S α : Type} {f : (S → α) → α} {k : S → α} {R : α} {P : Program} {c : Code} {n r : AP} {xs : List (Nat × AP)} {a : Act} {w : World} {N : Nat} {w0 : World} {X0 : Fr} (hR : jn f k = R) (hc : isSeq c = true) (st : S → St) (J : S → Prop)
    (h1 : f k = R → W P (c1 c) (fun a w => ∃ v, k v = R ∧ J v ∧ H N w0 X0 (st v) a w) r xs a w) (h2 : ∀ v a w, k v = R → J v → H N w0 X0 (st v) a w → W P (c2 c) n r xs a w) : W P c n r xs a w :=
  W.seqM hc _ (h1 hR) fun a w ⟨v, q1, q2, q3⟩ => h2 v a w q1 q2 q3

theorem loopN_to_from {S α : Type} {body : Nat → S → (S → α) → α} {k : S → α} (Inv : Nat → S → Prop) (Q : α → Prop) (n : Nat) (hb : ∀ i s next, i < n → Inv i s → (∀ s', Inv (i + 1) s' → Q (next s')) → Q (body i s next)) (hk : ∀ s, Inv n s → Q (k s)) :
    ∀ m i s, i + m = n → Inv i s → Q (loopN body k m i s)
  | 0, i, s, he, h => hk s (by rw [← he]; exact h)
  | m + 1, i, s, he, h => hb i s _ (by omega) h fun s' h' => loopN_to_from Inv Q n hb hk m (i + 1) s' (by omega) h'
/-- What holds at a counting loop's end. -/
theorem loopN_to {S α : Type} {body : Nat → S → (S → α) → α} {k : S → α} {n : Nat} {s : S} (Inv : Nat → S → Prop) (Q : α → Prop) (h0 : Inv 0 s) (hb : ∀ i s next, i < n → Inv i s → (∀ s', Inv (i + 1) s' → Q (next s')) → Q (body i s next)) (hk : ∀ s, Inv n s → Q (k s)) :
    Q (loopN body k n 0 s) := loopN_to_from Inv Q n hb hk n 0 s (by omega) h0
/-- What holds at the end of a loop with a measure. -/
theorem loopW_to {S α : Type} [Inhabited α] {body : S → (S → α) → α} (Inv : S → Prop) (μ : S → Nat) (Q : α → Prop) (hb : ∀ s next, Inv s → (∀ s', Inv s' → μ s' < μ s → Q (next s')) → Q (body s next)) : ∀ m s, μ s < m → Inv s → Q (loopW body m s)
  | 0, s, hm, _ => absurd hm (Nat.not_lt_zero _)
  | m + 1, s, hm, h => hb s _ h fun s' h' hlt => loopW_to Inv μ Q hb m s' (by omega) h'
theorem or_f_iff {a b : Bool} : (a || b) = false ↔ a = false ∧ b = false := by cases a <;> simp
theorem not_f_iff {a : Bool} : (!a) = false ↔ a = true := by cases a <;> simp
theorem not_t_iff {a : Bool} : (!a) = true ↔ a = false := by cases a <;> simp
/-! ### Rows of lists -/
section
variable {α : Type} [Inhabited α] (f : α → List LV)
theorem row_set (l : List α) (i : Nat) (x : α) (hi : i < l.length) : ∀ k, k < l.length → rowOf f (l.set i x) k = bif Nat.beq k i then f x else rowOf f l k := by
  intro k hk
  cases hb : Nat.beq k i with
  | true =>
    have := Nat.eq_of_beq_eq_true hb
    subst this
    simp [rowOf, hk]
  | false =>
    have hne : i ≠ k := fun e => by subst e; rw [Nat.beq_refl] at hb; cases hb
    simp [rowOf, List.getElem?_set_ne hne]
end

/-! ### Elements of lists -/
theorem getD_set {α : Type} (l : List α) (i k : Nat) (x d : α) : (l.set i x).getD k d = if k = i ∧ i < l.length then x else l.getD k d := by
  simp only [List.getD_eq_getElem?_getD]
  by_cases h : k = i
  · subst h
    by_cases h2 : k < l.length
    · simp [h2]
    · simp [h2]
  · rw [List.getElem?_set_ne (Ne.symm h)]
    simp [h]
/-- A list of n numbers, each of which is right for its place. -/
structure Rg (l : List Int) (n : Nat) (f : Nat → Int → Prop) : Prop where
  len : l.length = n
  get : ∀ k, k < n → f k (l.getD k default)
theorem Rg.set {l : List Int} {n i : Nat} {f : Nat → Int → Prop} {x : Int} (h : Rg l n f) (hx : i < n → f i x) : Rg (l.set i x) n f :=
  ⟨by rw [List.length_set]; exact h.len, fun k hk => by
    rw [getD_set]
    split
    · rename_i e; rw [e.1]; exact hx (by rw [← e.1]; exact hk)
    · exact h.get k hk⟩
theorem Rg.nil {f : Nat → Int → Prop} : Rg [] 0 f := ⟨rfl, fun k hk => absurd hk (Nat.not_lt_zero _)⟩
theorem Rg.mono {l : List Int} {n : Nat} {f g : Nat → Int → Prop} (h : Rg l n f) (hg : ∀ k x, k < n → f k x → g k x) : Rg l n g := ⟨h.len, fun k hk => hg k _ hk (h.get k hk)⟩

theorem cond_both {α : Type} {p : α → Prop} {c : Bool} {x y : α} (h1 : c = true → p x) (h2 : c = false → p y) : p (bif c then x else y) := by
  cases c with
  | true => exact h1 rfl
  | false => exact h2 rfl

end Go.Lite
