import Derived.Test.YtkkijpibajigfaaSA
set_option maxHeartbeats 4000000
set_option linter.unusedSimpArgs false
set_option linter.unusedVariables false
namespace Go.Proofs.Ytkkijpibajigfaa
open Go Go.Lite Go.Proofs
/-! ### What sorts -/
section
variable {α : Type} [Inhabited α] {R : α → α → Bool}
/-- One place moves down. -/
structure InsI (R : α → α → Bool) (a i j : Int) (l : List α) : Prop where
  b : a ≤ j ∧ j ≤ i
  pr : ∀ p q, a ≤ p → p < q → q ≤ i → p ≠ j → q ≠ j → R (gi l q) (gi l p) = false
  up : ∀ q, j < q → q ≤ i → R (gi l q) (gi l j) = false
theorem InsI.start {a i : Int} {l : List α} (h : a ≤ i) (hs : Srt R a i l) : InsI R a i i l :=
  ⟨by omega, fun p q h1 h2 h3 _ h5 => hs p q h1 h2 (by omega), fun q h1 h2 => absurd h1 (by omega)⟩
theorem InsI.step (hR : SWO R) {a i j : Int} {l : List α} (h : InsI R a i j l) (ha : 0 ≤ a) (hl : i < l.length) (hj : a < j) (hr : R (gi l j) (gi l (j - 1)) = true) : InsI R a i (j - 1) (swp l j (j - 1)) := by
  have hb := h.b
  have hg := fun (k : Int) (hk : 0 ≤ k) => gi_swp l j (j - 1) k (by omega) (by omega) hk
  refine ⟨by omega, fun p q h1 h2 h3 h4 h5 => ?_, fun q h1 h2 => ?_⟩
  · rw [hg p (by omega), hg q (by omega), if_neg h4, if_neg h5]
    split
    · rw [if_neg (by omega)]
      exact h.pr p (j - 1) h1 (by omega) (by omega) (by omega) (by omega)
    · split
      · exact h.pr (j - 1) q (by omega) (by omega) h3 (by omega) (by omega)
      · exact h.pr p q h1 h2 h3 (by omega) (by omega)
  · rw [hg q (by omega), hg (j - 1) (by omega), if_neg (by omega), if_pos rfl]
    split
    · exact hR.asym _ _ hr
    · exact h.up q (by omega) h2
theorem InsI.done (hR : SWO R) {a i j : Int} {l : List α} (h : InsI R a i j l) (hr : a < j → R (gi l j) (gi l (j - 1)) = false) : Srt R a (i + 1) l := by
  have hb := h.b
  intro p q h1 h2 h3
  by_cases e1 : p = j
  · subst e1; exact h.up q h2 (by omega)
  · by_cases e2 : q = j
    · subst e2
      by_cases e3 : p = q - 1
      · subst e3; exact hr (by omega)
      · exact hR.ntr _ _ _ (hr (by omega)) (h.pr p (q - 1) h1 (by omega) (by omega) e1 (by omega))
    · exact h.pr p q h1 h2 (by omega) e1 e2
theorem Srt.adj (hR : SWO R) {a b : Int} {l : List α} (h : ∀ k, a < k → k < b → R (gi l k) (gi l (k - 1)) = false) : Srt R a b l := by
  have key : ∀ (n : Nat) (i : Int), a ≤ i → i + n + 1 < b → R (gi l (i + n + 1)) (gi l i) = false := by
    intro n
    induction n with
    | zero => intro i h1 h2; have := h (i + 1) (by omega) (by simp at h2; omega); simpa using this
    | succ n ih =>
      intro i h1 h2
      have e := ih i h1 (by omega)
      have e2 := h (i + (n + 1 : Nat) + 1) (by omega) h2
      have e3 : (i + (n + 1 : Nat) + 1 - 1 : Int) = i + n + 1 := by omega
      rw [e3] at e2
      exact hR.ntr _ _ _ e2 e
  intro i j h1 h2 h3
  have := key (j - i - 1).toNat i h1 (by omega)
  have e : i + ((j - i - 1).toNat : Int) + 1 = j := by omega
  rwa [e] at this
/-- A heap from a place on. -/
def Heap (R : α → α → Bool) (f k n : Int) (l : List α) : Prop := ∀ r c, k ≤ r → (c = 2 * r + 1 ∨ c = 2 * r + 2) → c < n → R (gi l (f + r)) (gi l (f + c)) = false
/-- A heap but for one place. -/
structure HeapI (R : α → α → Bool) (f k n r : Int) (l : List α) : Prop where
  b : k ≤ r
  ot : ∀ q c, k ≤ q → q ≠ r → (c = 2 * q + 1 ∨ c = 2 * q + 2) → c < n → R (gi l (f + q)) (gi l (f + c)) = false
  gr : ∀ q c, k ≤ q → (r = 2 * q + 1 ∨ r = 2 * q + 2) → (c = 2 * r + 1 ∨ c = 2 * r + 2) → c < n → R (gi l (f + q)) (gi l (f + c)) = false
theorem HeapI.start {f k n : Int} {l : List α} (hk : 0 ≤ k) (h : Heap R f (k + 1) n l) : HeapI R f k n k l :=
  ⟨by omega, fun q c h1 h2 h3 h4 => h q c (by omega) h3 h4, fun q c h1 h2 => absurd h1 (by omega)⟩
theorem HeapI.done {f k n r : Int} {l : List α} (h : HeapI R f k n r l) (hr : ∀ c, (c = 2 * r + 1 ∨ c = 2 * r + 2) → c < n → R (gi l (f + r)) (gi l (f + c)) = false) : Heap R f k n l := by
  intro q c h1 h2 h3
  by_cases e : q = r
  · subst e; exact hr c h2 h3
  · exact h.ot q c h1 e h2 h3
theorem HeapI.step (hR : SWO R) {f k n r c : Int} {l : List α} (h : HeapI R f k n r l) (h0 : 0 ≤ f ∧ 0 ≤ k ∧ f + n ≤ l.length) (hc : c = 2 * r + 1 ∨ c = 2 * r + 2) (hcn : c < n) (hr : R (gi l (f + r)) (gi l (f + c)) = true)
    (ho : ∀ d, (d = 2 * r + 1 ∨ d = 2 * r + 2) → d < n → R (gi l (f + c)) (gi l (f + d)) = false) : HeapI R f k n c (swp l (f + r) (f + c)) := by
  have hb := h.b
  have hg := fun (k : Int) (hk : 0 ≤ k) => gi_swp l (f + r) (f + c) k (by omega) (by omega) hk
  refine ⟨by omega, fun q d h1 h2 h3 h4 => ?_, fun q d h1 h2 h3 h4 => ?_⟩
  · rw [hg (f + q) (by omega), hg (f + d) (by omega), if_neg (by omega)]
    by_cases e : q = r
    · subst e
      rw [if_pos rfl]
      by_cases e2 : d = c
      · subst e2; rw [if_pos rfl]; exact hR.asym _ _ hr
      · rw [if_neg (by omega), if_neg (by omega)]
        exact ho d h3 h4
    · rw [if_neg (by omega)]
      by_cases e2 : d = r
      · subst e2
        rw [if_neg (by omega), if_pos rfl]
        exact h.gr q c h1 h3 hc hcn
      · rw [if_neg (by omega), if_neg (by omega)]
        exact h.ot q d h1 e h3 h4
  · have e : q = r := by omega
    subst e
    rw [hg (f + q) (by omega), hg (f + d) (by omega), if_neg (by omega), if_pos rfl, if_neg (by omega), if_neg (by omega)]
    exact h.ot c d (by omega) (by omega) h3 h4
/-- The heap's first place holds the greatest. -/
theorem Heap.top (hR : SWO R) {f n : Int} {l : List α} (h : Heap R f 0 n l) : ∀ (m : Nat), (m : Int) < n → R (gi l f) (gi l (f + m)) = false := by
  intro m
  induction m using Nat.strongRecOn with
  | _ m ih =>
    intro hm
    by_cases e : m = 0
    · subst e; simpa using hR.irr _
    · have h1 := ih ((m - 1) / 2) (by omega) (by omega)
      exact hR.ntr _ _ _ h1 (h (((m - 1) / 2 : Nat) : Int) m (by omega) (by omega) hm)
/-- A list of which all is done but a range. -/
structure Done (R : α → α → Bool) (x1 x2 a b : Int) (l : List α) : Prop where
  d : ∀ i j, x1 ≤ i → i < j → j < x2 → (i < a ∨ b ≤ j) → R (gi l j) (gi l i) = false
  p : 0 < x1 → ∀ k, x1 ≤ k → k < x2 → R (gi l k) (gi l (x1 - 1)) = false
theorem Done.sw {x1 x2 a b : Int} {l l' : List α} (h : Done R x1 x2 a b l) (hs : Sw a b l l') (h0 : 0 ≤ x1 ∧ x1 ≤ a ∧ a ≤ b ∧ b ≤ x2 ∧ x2 ≤ l.length) : Done R x1 x2 a b l' := by
  have ho := fun (k : Int) (hk : 0 ≤ k) (h2 : k < a ∨ b ≤ k) => hs.out (by omega) (by omega) hk h2
  refine ⟨fun i j h1 h2 h3 h4 => ?_, fun hp k h1 h2 => ?_⟩
  · by_cases ei : i < a ∨ b ≤ i
    · rw [ho i (by omega) ei]
      by_cases ej : j < a ∨ b ≤ j
      · rw [ho j (by omega) ej]; exact h.d i j h1 h2 h3 h4
      · exact hs.all (by omega) (by omega) (P := fun y => R y (gi l i) = false) (fun k k1 k2 => h.d i k h1 (by omega) (by omega) (by omega)) j (by omega) (by omega)
    · rw [ho j (by omega) (by omega)]
      exact hs.all (by omega) (by omega) (P := fun y => R (gi l j) y = false) (fun k k1 k2 => h.d k j (by omega) (by omega) h3 (by omega)) i (by omega) (by omega)
  · rw [ho (x1 - 1) (by omega) (by omega)]
    by_cases ek : k < a ∨ b ≤ k
    · rw [ho k (by omega) ek]; exact h.p hp k h1 h2
    · exact hs.all (by omega) (by omega) (P := fun y => R y (gi l (x1 - 1)) = false) (fun k k1 k2 => h.p hp k (by omega) (by omega)) k (by omega) (by omega)
theorem Done.fin {x1 x2 a b : Int} {l : List α} (h : Done R x1 x2 a b l) (hs : Srt R a b l) : Srt R x1 x2 l := fun i j h1 h2 h3 => by
  by_cases e : i < a ∨ b ≤ j
  · exact h.d i j h1 h2 h3 e
  · exact hs i j (by omega) h2 (by omega)
theorem Done.pb {x1 x2 a b : Int} {l : List α} (h : Done R x1 x2 a b l) (h0 : 0 ≤ x1 ∧ x1 ≤ a ∧ b ≤ x2) (ha : 0 < a) : ∀ k, a ≤ k → k < b → R (gi l k) (gi l (a - 1)) = false := fun k h1 h2 => by
  by_cases e : a = x1
  · subst e; exact h.p ha k h1 (by omega)
  · exact h.d (a - 1) k (by omega) (by omega) (by omega) (by omega)
/-- The left part is sorted. -/
theorem Done.left (hR : SWO R) {x1 x2 a b mid : Int} {l l' : List α} {p : α} (h : Done R x1 x2 a b l) (h0 : 0 ≤ x1 ∧ x1 ≤ a ∧ b ≤ x2 ∧ x2 ≤ l.length ∧ a ≤ mid ∧ mid < b) (hp : gi l mid = p) (lo : ∀ k, a ≤ k → k < mid → R (gi l k) p = true) (hi : ∀ k, mid < k → k < b → R (gi l k) p = false)
    (hs : Sw a mid l l') (ht : Srt R a mid l') : Done R x1 x2 (mid + 1) b l' := by
  have hd := h.sw (hs.mono (c := a) (d := b) (by omega) (by omega)) (by omega)
  have ho := fun (k : Int) (hk : 0 ≤ k) (h2 : k < a ∨ mid ≤ k) => hs.out (by omega) (by omega) hk h2
  have lo' := hs.all (by omega) (by omega) (P := fun y => R y p = true) lo
  refine ⟨fun i j h1 h2 h3 h4 => ?_, hd.p⟩
  by_cases e : i < a ∨ b ≤ j
  · exact hd.d i j h1 h2 h3 e
  · by_cases ei : i < mid
    · by_cases ej : j < mid
      · exact ht i j (by omega) h2 ej
      · rw [ho j (by omega) (by omega)]
        by_cases ej2 : j = mid
        · subst ej2; rw [hp]; exact hR.asym _ _ (lo' i (by omega) ei)
        · exact hR.ntr _ _ _ (hi j (by omega) (by omega)) (hR.asym _ _ (lo' i (by omega) ei))
    · have e3 : i = mid := by omega
      subst e3
      rw [ho i (by omega) (by omega), ho j (by omega) (by omega), hp]
      exact hi j (by omega) (by omega)
/-- The right part is sorted. -/
theorem Done.right (hR : SWO R) {x1 x2 a b mid : Int} {l l' : List α} {p : α} (h : Done R x1 x2 a b l) (h0 : 0 ≤ x1 ∧ x1 ≤ a ∧ b ≤ x2 ∧ x2 ≤ l.length ∧ a ≤ mid ∧ mid < b) (hp : gi l mid = p) (lo : ∀ k, a ≤ k → k < mid → R (gi l k) p = true) (hi : ∀ k, mid < k → k < b → R (gi l k) p = false)
    (hs : Sw (mid + 1) b l l') (ht : Srt R (mid + 1) b l') : Done R x1 x2 a mid l' := by
  have hd := h.sw (hs.mono (c := a) (d := b) (by omega) (by omega)) (by omega)
  have ho := fun (k : Int) (hk : 0 ≤ k) (h2 : k < mid + 1 ∨ b ≤ k) => hs.out (by omega) (by omega) hk h2
  have hi' := hs.all (by omega) (by omega) (P := fun y => R y p = false) (fun k k1 k2 => hi k (by omega) k2)
  refine ⟨fun i j h1 h2 h3 h4 => ?_, hd.p⟩
  by_cases e : i < a ∨ b ≤ j
  · exact hd.d i j h1 h2 h3 e
  · by_cases ej : j = mid
    · subst ej
      rw [ho j (by omega) (by omega), ho i (by omega) (by omega), hp]
      exact hR.asym _ _ (lo i (by omega) h2)
    · by_cases ei : i < mid
      · rw [ho i (by omega) (by omega)]
        exact hR.ntr _ _ _ (hi' j (by omega) (by omega)) (hR.asym _ _ (lo i (by omega) ei))
      · by_cases ei2 : i = mid
        · subst ei2
          rw [ho i (by omega) (by omega), hp]
          exact hi' j (by omega) (by omega)
        · exact ht i j (by omega) h2 (by omega)
/-- The range's first part is like the one ahead of it. -/
theorem Done.eqs (hR : SWO R) {x1 x2 a b m : Int} {l l' : List α} {p : α} (h : Done R x1 x2 a b l) (h0 : 0 ≤ x1 ∧ x1 ≤ a ∧ b ≤ x2 ∧ x2 ≤ l.length ∧ a + 1 ≤ m ∧ m ≤ b) (ha : 0 < a) (hc : R (gi l (a - 1)) p = false) (hs : Sw a b l l') (hp : gi l' a = p)
    (lo : ∀ k, a < k → k < m → R p (gi l' k) = false) (hi : ∀ k, m ≤ k → k < b → R p (gi l' k) = true) : Done R x1 x2 m b l' := by
  have hd := h.sw hs (by omega)
  have hpb := hd.pb (by omega) ha
  have ho := hs.out (k := a - 1) (by omega) (by omega) (by omega) (by omega)
  have lo2 : ∀ k, a ≤ k → k < m → R p (gi l' k) = false := fun k h1 h2 => by
    by_cases e : k = a
    · subst e; rw [hp]; exact hR.irr _
    · exact lo k (by omega) h2
  refine ⟨fun i j h1 h2 h3 h4 => ?_, hd.p⟩
  by_cases e : i < a ∨ b ≤ j
  · exact hd.d i j h1 h2 h3 e
  · by_cases ej : j < m
    · have q := hpb j (by omega) (by omega)
      rw [ho] at q
      exact hR.ntr _ _ _ (hR.ntr _ _ _ q hc) (lo2 i (by omega) (by omega))
    · exact hR.ntr _ _ _ (hR.asym _ _ (hi j (by omega) (by omega))) (lo2 i (by omega) (by omega))
end
/-! ### A family with fewer unions -/
theorem take_snoc {α : Type} (l : List α) (d : α) {i : Nat} (hi : i < l.length) : l.take (i + 1) = l.take i ++ [l.getD i d] := by
  rw [List.take_add_one, List.getD_eq_getElem?_getD, List.getElem?_eq_getElem hi]; rfl
def AuI (x : Family) (i : Nat) (u : List Union) : Prop := u.Sublist (x.unions.take i)
theorem AuI.snoc {x : Family} {i : Nat} {u : List Union} (h : AuI x i u) (hi : i < x.unions.length) : AuI x (i + 1) (u ++ [x.unions.getD i default]) := by
  unfold AuI
  rw [take_snoc _ default hi]
  exact List.Sublist.append h (List.Sublist.refl _)
theorem AuI.skip {x : Family} {i : Nat} {u : List Union} (h : AuI x i u) (hi : i < x.unions.length) : AuI x (i + 1) u := by
  unfold AuI
  rw [take_snoc _ default hi]
  exact List.Sublist.trans h (List.sublist_append_left _ _)
end Go.Proofs.Ytkkijpibajigfaa
