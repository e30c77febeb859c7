/- Loops as plain functions: what is left to do, as a value. Conditions: none. -/
import Derived.Test.YtaageiiodlfeiaaLiteL
set_option linter.unusedVariables false
set_option linter.unusedSimpArgs false
namespace Go.Lite
open Go Go.RowKit

/-- A loop over i, i + 1, .., m rounds at most: a round goes on by its last argument. -/
def loopN {S α : Type} (body : Nat → S → (S → α) → α) (k : S → α) : Nat → Nat → S → α
  | 0, _, s => k s
  | m + 1, i, s => body i s fun s' => loopN body k m (i + 1) s'

theorem ct {α : Type} {c : Bool} {x y R : α} (h : (bif c then x else y) = R) (hc : c = true) : x = R := by subst hc; exact h
theorem cf {α : Type} {c : Bool} {x y R : α} (h : (bif c then x else y) = R) (hc : c = false) : y = R := by subst hc; exact h

section
variable {S α : Type} {body : Nat → S → (S → α) → α} {k : S → α} {R : α} {s : S} {i n : Nat}
theorem loopN_step (h : loopN body k (n - i) i s = R) (hi : i < n) : body i s (fun s' => loopN body k (n - (i + 1)) (i + 1) s') = R := by
  have e : n - i = (n - (i + 1)) + 1 := by omega
  rw [e] at h
  exact h
theorem loopN_end (h : loopN body k (n - i) i s = R) (hi : ¬ i < n) : k s = R := by
  have e : n - i = 0 := by omega
  rw [e] at h
  exact h
variable {P : Program} {c : Code} {n' r : AP} {xs : List (Nat × AP)} {a : Act} {w : World} {N : Nat} {w0 : World} {X0 : Fr}
end

/-- A loop of m rounds at most: a round goes on by its last argument. -/
def loopW {S α : Type} [Inhabited α] (body : S → (S → α) → α) : Nat → S → α
  | 0, _ => default
  | m + 1, s => body s (loopW body m)
/-- What follows where ways meet again. -/
def jn {S α : Type} (f : (S → α) → α) (k : S → α) : α := f k

section
variable {S α : Type} [Inhabited α] {body : S → (S → α) → α} {R : α}
variable {P : Program} {c : Code} {n' r : AP} {xs : List (Nat × AP)} {a : Act} {w : World} {N : Nat} {w0 : World} {X0 : Fr}
end
/-- Ways meet again. -/
theorem W.join {S α : Type} {f : (S → α) → α} {k : S → α} {R : α} {P : Program} {c : Code} {n r : AP} {xs : List (Nat × AP)} {a : Act} {w : World} {N : Nat} {w0 : World} {X0 : Fr} (hR : jn f k = R) (hc : isSeq c = true) (st : S → St) (J : S → Prop)
    (h1 : f k = R → W P (c1 c) (fun a w => ∃ v, k v = R ∧ J v ∧ H N w0 X0 (st v) a w) r xs a w) (h2 : ∀ v a w, k v = R → J v → H N w0 X0 (st v) a w → W P (c2 c) n r xs a w) : W P c n r xs a w :=
  W.seqM hc _ (h1 hR) fun a w ⟨v, q1, q2, q3⟩ => h2 v a w q1 q2 q3

theorem loopN_to_from {S α : Type} {body : Nat → S → (S → α) → α} {k : S → α} (Inv : Nat → S → Prop) (Q : α → Prop) (n : Nat) (hb : ∀ i s next, i < n → Inv i s → (∀ s', Inv (i + 1) s' → Q (next s')) → Q (body i s next)) (hk : ∀ s, Inv n s → Q (k s)) :
    ∀ m i s, i + m = n → Inv i s → Q (loopN body k m i s)
  | 0, i, s, he, h => hk s (by rw [← he]; exact h)
  | m + 1, i, s, he, h => hb i s _ (by omega) h fun s' h' => loopN_to_from Inv Q n hb hk m (i + 1) s' (by omega) h'
/-- What holds at a counting loop's end. -/
theorem loopN_to {S α : Type} {body : Nat → S → (S → α) → α} {k : S → α} {n : Nat} {s : S} (Inv : Nat → S → Prop) (Q : α → Prop) (h0 : Inv 0 s) (hb : ∀ i s next, i < n → Inv i s → (∀ s', Inv (i + 1) s' → Q (next s')) → Q (body i s next)) (hk : ∀ s, Inv n s → Q (k s)) :
    Q (loopN body k n 0 s) := loopN_to_from Inv Q n hb hk n 0 s (by omega) h0
/-- What holds at the end of a loop with a measure. -/
theorem loopW_to {S α : Type} [Inhabited α] {body : S → (S → α) → α} (Inv : S → Prop) (μ : S → Nat) (Q : α → Prop) (hb : ∀ s next, Inv s → (∀ s', Inv s' → μ s' < μ s → Q (next s')) → Q (body s next)) : ∀ m s, μ s < m → Inv s → Q (loopW body m s)
  | 0, s, hm, _ => absurd hm (Nat.not_lt_zero _)
  | m + 1, s, hm, h => hb s _ h fun s' h' hlt => loopW_to Inv μ Q hb m s' (by omega) h'
/-! ### Loops that look for one that fails -/
theorem cond_f_iff {c x : Bool} : (bif c then false else x) = true ↔ c = false ∧ x = true := by cases c <;> simp
theorem or_f_iff {a b : Bool} : (a || b) = false ↔ a = false ∧ b = false := by cases a <;> simp
theorem not_f_iff {a : Bool} : (!a) = false ↔ a = true := by cases a <;> simp
theorem not_t_iff {a : Bool} : (!a) = true ↔ a = false := by cases a <;> simp
theorem loopN_all_from (p : Nat → Bool) (k : Unit → Bool) : ∀ m i, loopN (fun i (_ : Unit) next => bif p i then false else next ()) k m i () = true ↔ (∀ j, i ≤ j → j < i + m → p j = false) ∧ k () = true
  | 0, i => by simp only [loopN]; exact ⟨fun h => ⟨fun j h1 h2 => by omega, h⟩, fun h => h.2⟩
  | m + 1, i => by
    simp only [loopN]
    cases hp : p i with
    | true =>
      simp only [cond_true]
      exact ⟨fun h => (by cases h), fun h => (by have := h.1 i (Nat.le_refl _) (by omega); rw [hp] at this; cases this)⟩
    | false =>
      simp only [cond_false]
      rw [loopN_all_from p k m (i + 1)]
      refine ⟨fun h => ⟨fun j h1 h2 => ?_, h.2⟩, fun h => ⟨fun j h1 h2 => h.1 j (by omega) (by omega), h.2⟩⟩
      by_cases e : j = i
      · rw [e]; exact hp
      · exact h.1 j (by omega) (by omega)
theorem loopN_all (p : Nat → Bool) (k : Unit → Bool) (n : Nat) : loopN (fun i (_ : Unit) next => bif p i then false else next ()) k n 0 () = true ↔ (∀ j, j < n → p j = false) ∧ k () = true := by
  rw [loopN_all_from]
  exact ⟨fun h => ⟨fun j hj => h.1 j (Nat.zero_le _) (by omega), h.2⟩, fun h => ⟨fun j _ hj => h.1 j (by omega), h.2⟩⟩
theorem FrsL_app : ∀ {l m : List LV}, FrsL (l ++ m) ↔ FrsL l ∧ FrsL m
  | [], m => by simp [FrsL]
  | v :: l, m => by simp [FrsL, FrsL_app, and_assoc]

/-! ### Rows of lists -/
section
variable {α : Type} [Inhabited α] (f : α → List LV)
theorem row_append (l m : List α) : ∀ k, k < l.length + m.length → rowOf f (l ++ m) k = bif Nat.blt k l.length then rowOf f l k else rowOf f m (k - l.length) := by
  intro k hk
  cases hb : Nat.blt k l.length with
  | true =>
    have := blt_lt hb
    simp only [rowOf, cond_true, List.getD_eq_getElem?_getD, List.getElem?_append_left this]
  | false =>
    have : l.length ≤ k := by
      rcases Nat.lt_or_ge k l.length with h | h
      · have h2 : Nat.blt k l.length = true := Nat.ble_eq_true_of_le h
        rw [hb] at h2; cases h2
      · exact h
    simp only [rowOf, cond_false, List.getD_eq_getElem?_getD, List.getElem?_append_right this]
theorem row_set (l : List α) (i : Nat) (x : α) (hi : i < l.length) : ∀ k, k < l.length → rowOf f (l.set i x) k = bif Nat.beq k i then f x else rowOf f l k := by
  intro k hk
  cases hb : Nat.beq k i with
  | true =>
    have := Nat.eq_of_beq_eq_true hb
    subst this
    simp [rowOf, hk]
  | false =>
    have hne : i ≠ k := fun e => by subst e; rw [Nat.beq_refl] at hb; cases hb
    simp [rowOf, List.getElem?_set_ne hne]
end

/-! ### Elements of lists -/
theorem getD_set {α : Type} (l : List α) (i k : Nat) (x d : α) : (l.set i x).getD k d = if k = i ∧ i < l.length then x else l.getD k d := by
  simp only [List.getD_eq_getElem?_getD]
  by_cases h : k = i
  · subst h
    by_cases h2 : k < l.length
    · simp [h2]
    · simp [h2]
  · rw [List.getElem?_set_ne (Ne.symm h)]
    simp [h]
theorem getD_snoc {α : Type} (l : List α) (k : Nat) (x d : α) : (l ++ [x]).getD k d = if k < l.length then l.getD k d else if k = l.length then x else d := by
  simp only [List.getD_eq_getElem?_getD]
  by_cases h : k < l.length
  · simp [h, List.getElem?_append_left]
  · rw [List.getElem?_append_right (by omega)]
    by_cases h2 : k = l.length
    · subst h2; simp
    · have : k - l.length ≠ 0 := by omega
      simp [h, h2, this]
/-- A list of n numbers, each of which is right for its place. -/
structure Rg (l : List Int) (n : Nat) (f : Nat → Int → Prop) : Prop where
  len : l.length = n
  get : ∀ k, k < n → f k (l.getD k default)
theorem Rg.set {l : List Int} {n i : Nat} {f : Nat → Int → Prop} {x : Int} (h : Rg l n f) (hx : i < n → f i x) : Rg (l.set i x) n f :=
  ⟨by rw [List.length_set]; exact h.len, fun k hk => by
    rw [getD_set]
    split
    · rename_i e; rw [e.1]; exact hx (by rw [← e.1]; exact hk)
    · exact h.get k hk⟩
theorem Rg.mono {l : List Int} {n : Nat} {f g : Nat → Int → Prop} (h : Rg l n f) (hg : ∀ k x, k < n → f k x → g k x) : Rg l n g := ⟨h.len, fun k hk => hg k _ hk (h.get k hk)⟩

theorem cond_both {α : Type} {p : α → Prop} {c : Bool} {x y : α} (h1 : c = true → p x) (h2 : c = false → p y) : p (bif c then x else y) := by
  cases c with
  | true => exact h1 rfl
  | false => exact h2 rfl

end Go.Lite
