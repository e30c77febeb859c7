import Derived.Test.YtepefimocflfkaaSA
set_option maxHeartbeats 4000000
set_option linter.unusedSimpArgs false
set_option linter.unusedVariables false
namespace Go.Proofs.Ytepefimocflfkaa
open Go Go.Lite Go.Proofs
/-! ### What sorts -/
section
variable {α : Type} [Inhabited α] {R : α → α → Bool}
/-- One place moves down. -/
structure InsI (R : α → α → Bool) (a i j : Int) (l : List α) : Prop where
  b : a ≤ j ∧ j ≤ i
  pr : ∀ p q, a ≤ p → p < q → q ≤ i → p ≠ j → q ≠ j → R (gi l q) (gi l p) = false
  up : ∀ q, j < q → q ≤ i → R (gi l q) (gi l j) = false
theorem InsI.start {a i : Int} {l : List α} (h : a ≤ i) (hs : Srt R a i l) : InsI R a i i l :=
  ⟨by omega, fun p q h1 h2 h3 _ h5 => hs p q h1 h2 (by omega), fun q h1 h2 => absurd h1 (by omega)⟩
theorem InsI.step (hR : SWO R) {a i j : Int} {l : List α} (h : InsI R a i j l) (ha : 0 ≤ a) (hl : i < l.length) (hj : a < j) (hr : R (gi l j) (gi l (j - 1)) = true) : InsI R a i (j - 1) (swp l j (j - 1)) := by
  have hb := h.b
  have hg := fun (k : Int) (hk : 0 ≤ k) => gi_swp l j (j - 1) k (by omega) (by omega) hk
  refine ⟨by omega, fun p q h1 h2 h3 h4 h5 => ?_, fun q h1 h2 => ?_⟩
  · rw [hg p (by omega), hg q (by omega), if_neg h4, if_neg h5]
    split
    · rw [if_neg (by omega)]
      exact h.pr p (j - 1) h1 (by omega) (by omega) (by omega) (by omega)
    · split
      · exact h.pr (j - 1) q (by omega) (by omega) h3 (by omega) (by omega)
      · exact h.pr p q h1 h2 h3 (by omega) (by omega)
  · rw [hg q (by omega), hg (j - 1) (by omega), if_neg (by omega), if_pos rfl]
    split
    · exact hR.asym _ _ hr
    · exact h.up q (by omega) h2
theorem InsI.done (hR : SWO R) {a i j : Int} {l : List α} (h : InsI R a i j l) (hr : a < j → R (gi l j) (gi l (j - 1)) = false) : Srt R a (i + 1) l := by
  have hb := h.b
  intro p q h1 h2 h3
  by_cases e1 : p = j
  · subst e1; exact h.up q h2 (by omega)
  · by_cases e2 : q = j
    · subst e2
      by_cases e3 : p = q - 1
      · subst e3; exact hr (by omega)
      · exact hR.ntr _ _ _ (hr (by omega)) (h.pr p (q - 1) h1 (by omega) (by omega) e1 (by omega))
    · exact h.pr p q h1 h2 (by omega) e1 e2
/-- A heap from a place on. -/
def Heap (R : α → α → Bool) (f k n : Int) (l : List α) : Prop := ∀ r c, k ≤ r → (c = 2 * r + 1 ∨ c = 2 * r + 2) → c < n → R (gi l (f + r)) (gi l (f + c)) = false
/-- A heap but for one place. -/
structure HeapI (R : α → α → Bool) (f k n r : Int) (l : List α) : Prop where
  b : k ≤ r
  ot : ∀ q c, k ≤ q → q ≠ r → (c = 2 * q + 1 ∨ c = 2 * q + 2) → c < n → R (gi l (f + q)) (gi l (f + c)) = false
  gr : ∀ q c, k ≤ q → (r = 2 * q + 1 ∨ r = 2 * q + 2) → (c = 2 * r + 1 ∨ c = 2 * r + 2) → c < n → R (gi l (f + q)) (gi l (f + c)) = false
theorem HeapI.start {f k n : Int} {l : List α} (hk : 0 ≤ k) (h : Heap R f (k + 1) n l) : HeapI R f k n k l :=
  ⟨by omega, fun q c h1 h2 h3 h4 => h q c (by omega) h3 h4, fun q c h1 h2 => absurd h1 (by omega)⟩
theorem HeapI.done {f k n r : Int} {l : List α} (h : HeapI R f k n r l) (hr : ∀ c, (c = 2 * r + 1 ∨ c = 2 * r + 2) → c < n → R (gi l (f + r)) (gi l (f + c)) = false) : Heap R f k n l := by
  intro q c h1 h2 h3
  by_cases e : q = r
  · subst e; exact hr c h2 h3
  · exact h.ot q c h1 e h2 h3
theorem HeapI.step (hR : SWO R) {f k n r c : Int} {l : List α} (h : HeapI R f k n r l) (h0 : 0 ≤ f ∧ 0 ≤ k ∧ f + n ≤ l.length) (hc : c = 2 * r + 1 ∨ c = 2 * r + 2) (hcn : c < n) (hr : R (gi l (f + r)) (gi l (f + c)) = true)
    (ho : ∀ d, (d = 2 * r + 1 ∨ d = 2 * r + 2) → d < n → R (gi l (f + c)) (gi l (f + d)) = false) : HeapI R f k n c (swp l (f + r) (f + c)) := by
  have hb := h.b
  have hg := fun (k : Int) (hk : 0 ≤ k) => gi_swp l (f + r) (f + c) k (by omega) (by omega) hk
  refine ⟨by omega, fun q d h1 h2 h3 h4 => ?_, fun q d h1 h2 h3 h4 => ?_⟩
  · rw [hg (f + q) (by omega), hg (f + d) (by omega), if_neg (by omega)]
    by_cases e : q = r
    · subst e
      rw [if_pos rfl]
      by_cases e2 : d = c
      · subst e2; rw [if_pos rfl]; exact hR.asym _ _ hr
      · rw [if_neg (by omega), if_neg (by omega)]
        exact ho d h3 h4
    · rw [if_neg (by omega)]
      by_cases e2 : d = r
      · subst e2
        rw [if_neg (by omega), if_pos rfl]
        exact h.gr q c h1 h3 hc hcn
      · rw [if_neg (by omega), if_neg (by omega)]
        exact h.ot q d h1 e h3 h4
  · have e : q = r := by omega
    subst e
    rw [hg (f + q) (by omega), hg (f + d) (by omega), if_neg (by omega), if_pos rfl, if_neg (by omega), if_neg (by omega)]
    exact h.ot c d (by omega) (by omega) h3 h4
/-- A list of which all is done but a range. -/
structure Done (R : α → α → Bool) (x1 x2 a b : Int) (l : List α) : Prop where
  d : ∀ i j, x1 ≤ i → i < j → j < x2 → (i < a ∨ b ≤ j) → R (gi l j) (gi l i) = false
  p : 0 < x1 → ∀ k, x1 ≤ k → k < x2 → R (gi l k) (gi l (x1 - 1)) = false
theorem Done.fin {x1 x2 a b : Int} {l : List α} (h : Done R x1 x2 a b l) (hs : Srt R a b l) : Srt R x1 x2 l := fun i j h1 h2 h3 => by
  by_cases e : i < a ∨ b ≤ j
  · exact h.d i j h1 h2 h3 e
  · exact hs i j (by omega) h2 (by omega)
end
end Go.Proofs.Ytepefimocflfkaa
