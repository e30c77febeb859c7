import Derived.Test.YtmefknjcgdbceaaSA
set_option maxHeartbeats 4000000
set_option linter.unusedSimpArgs false
set_option linter.unusedVariables false
namespace Go.Proofs.Ytmefknjcgdbceaa
open Go Go.Lite Go.Proofs
/-! ### What sorts -/
section
variable {α : Type} [Inhabited α] {R : α → α → Bool}
/-- One place moves down. -/
structure InsI (R : α → α → Bool) (a i j : Int) (l : List α) : Prop where
  b : a ≤ j ∧ j ≤ i
  pr : ∀ p q, a ≤ p → p < q → q ≤ i → p ≠ j → q ≠ j → R (gi l q) (gi l p) = false
  up : ∀ q, j < q → q ≤ i → R (gi l q) (gi l j) = false
theorem InsI.start {a i : Int} {l : List α} (h : a ≤ i) (hs : Srt R a i l) : InsI R a i i l :=
  ⟨by omega, fun p q h1 h2 h3 _ h5 => hs p q h1 h2 (by omega), fun q h1 h2 => absurd h1 (by omega)⟩
theorem InsI.step (hR : SWO R) {a i j : Int} {l : List α} (h : InsI R a i j l) (ha : 0 ≤ a) (hl : i < l.length) (hj : a < j) (hr : R (gi l j) (gi l (j - 1)) = true) : InsI R a i (j - 1) (swp l j (j - 1)) := by
  have hb := h.b
  have hg := fun (k : Int) (hk : 0 ≤ k) => gi_swp l j (j - 1) k (by omega) (by omega) hk
  refine ⟨by omega, fun p q h1 h2 h3 h4 h5 => ?_, fun q h1 h2 => ?_⟩
  · rw [hg p (by omega), hg q (by omega), if_neg h4, if_neg h5]
    split
    · rw [if_neg (by omega)]
      exact h.pr p (j - 1) h1 (by omega) (by omega) (by omega) (by omega)
    · split
      · exact h.pr (j - 1) q (by omega) (by omega) h3 (by omega) (by omega)
      · exact h.pr p q h1 h2 h3 (by omega) (by omega)
  · rw [hg q (by omega), hg (j - 1) (by omega), if_neg (by omega), if_pos rfl]
    split
    · exact hR.asym _ _ hr
    · exact h.up q (by omega) h2
theorem InsI.done (hR : SWO R) {a i j : Int} {l : List α} (h : InsI R a i j l) (hr : a < j → R (gi l j) (gi l (j - 1)) = false) : Srt R a (i + 1) l := by
  have hb := h.b
  intro p q h1 h2 h3
  by_cases e1 : p = j
  · subst e1; exact h.up q h2 (by omega)
  · by_cases e2 : q = j
    · subst e2
      by_cases e3 : p = q - 1
      · subst e3; exact hr (by omega)
      · exact hR.ntr _ _ _ (hr (by omega)) (h.pr p (q - 1) h1 (by omega) (by omega) e1 (by omega))
    · exact h.pr p q h1 h2 (by omega) e1 e2
theorem Srt.adj (hR : SWO R) {a b : Int} {l : List α} (h : ∀ k, a < k → k < b → R (gi l k) (gi l (k - 1)) = false) : Srt R a b l := by
  have key : ∀ (n : Nat) (i : Int), a ≤ i → i + n + 1 < b → R (gi l (i + n + 1)) (gi l i) = false := by
    intro n
    induction n with
    | zero => intro i h1 h2; have := h (i + 1) (by omega) (by simp at h2; omega); simpa using this
    | succ n ih =>
      intro i h1 h2
      have e := ih i h1 (by omega)
      have e2 := h (i + (n + 1 : Nat) + 1) (by omega) h2
      have e3 : (i + (n + 1 : Nat) + 1 - 1 : Int) = i + n + 1 := by omega
      rw [e3] at e2
      exact hR.ntr _ _ _ e2 e
  intro i j h1 h2 h3
  have := key (j - i - 1).toNat i h1 (by omega)
  have e : i + ((j - i - 1).toNat : Int) + 1 = j := by omega
  rwa [e] at this
/-- A heap from a place on. -/
def Heap (R : α → α → Bool) (f k n : Int) (l : List α) : Prop := ∀ r c, k ≤ r → (c = 2 * r + 1 ∨ c = 2 * r + 2) → c < n → R (gi l (f + r)) (gi l (f + c)) = false
/-- A heap but for one place. -/
structure HeapI (R : α → α → Bool) (f k n r : Int) (l : List α) : Prop where
  b : k ≤ r
  ot : ∀ q c, k ≤ q → q ≠ r → (c = 2 * q + 1 ∨ c = 2 * q + 2) → c < n → R (gi l (f + q)) (gi l (f + c)) = false
  gr : ∀ q c, k ≤ q → (r = 2 * q + 1 ∨ r = 2 * q + 2) → (c = 2 * r + 1 ∨ c = 2 * r + 2) → c < n → R (gi l (f + q)) (gi l (f + c)) = false
theorem HeapI.start {f k n : Int} {l : List α} (hk : 0 ≤ k) (h : Heap R f (k + 1) n l) : HeapI R f k n k l :=
  ⟨by omega, fun q c h1 h2 h3 h4 => h q c (by omega) h3 h4, fun q c h1 h2 => absurd h1 (by omega)⟩
theorem HeapI.done {f k n r : Int} {l : List α} (h : HeapI R f k n r l) (hr : ∀ c, (c = 2 * r + 1 ∨ c = 2 * r + 2) → c < n → R (gi l (f + r)) (gi l (f + c)) = false) : Heap R f k n l := by
  intro q c h1 h2 h3
  by_cases e : q = r
  · subst e; exact hr c h2 h3
  · exact h.ot q c h1 e h2 h3
theorem HeapI.step (hR : SWO R) {f k n r c : Int} {l : List α} (h : HeapI R f k n r l) (h0 : 0 ≤ f ∧ 0 ≤ k ∧ f + n ≤ l.length) (hc : c = 2 * r + 1 ∨ c = 2 * r + 2) (hcn : c < n) (hr : R (gi l (f + r)) (gi l (f + c)) = true)
    (ho : ∀ d, (d = 2 * r + 1 ∨ d = 2 * r + 2) → d < n → R (gi l (f + c)) (gi l (f + d)) = false) : HeapI R f k n c (swp l (f + r) (f + c)) := by
  have hb := h.b
  have hg := fun (k : Int) (hk : 0 ≤ k) => gi_swp l (f + r) (f + c) k (by omega) (by omega) hk
  refine ⟨by omega, fun q d h1 h2 h3 h4 => ?_, fun q d h1 h2 h3 h4 => ?_⟩
  · rw [hg (f + q) (by omega), hg (f + d) (by omega), if_neg (by omega)]
    by_cases e : q = r
    · subst e
      rw [if_pos rfl]
      by_cases e2 : d = c
      · subst e2; rw [if_pos rfl]; exact hR.asym _ _ hr
      · rw [if_neg (by omega), if_neg (by omega)]
        exact ho d h3 h4
    · rw [if_neg (by omega)]
      by_cases e2 : d = r
      · subst e2
        rw [if_neg (by omega), if_pos rfl]
        exact h.gr q c h1 h3 hc hcn
      · rw [if_neg (by omega), if_neg (by omega)]
        exact h.ot q d h1 e h3 h4
  · have e : q = r := by omega
    subst e
    rw [hg (f + q) (by omega), hg (f + d) (by omega), if_neg (by omega), if_pos rfl, if_neg (by omega), if_neg (by omega)]
    exact h.ot c d (by omega) (by omega) h3 h4
/-- The heap's first place holds the greatest. -/
theorem Heap.top (hR : SWO R) {f n : Int} {l : List α} (h : Heap R f 0 n l) : ∀ (m : Nat), (m : Int) < n → R (gi l f) (gi l (f + m)) = false := by
  intro m
  induction m using Nat.strongRecOn with
  | _ m ih =>
    intro hm
    by_cases e : m = 0
    · subst e; simpa using hR.irr _
    · have h1 := ih ((m - 1) / 2) (by omega) (by omega)
      exact hR.ntr _ _ _ h1 (h (((m - 1) / 2 : Nat) : Int) m (by omega) (by omega) hm)
/-- A list of which all is done but a range. -/
structure Done (R : α → α → Bool) (x1 x2 a b : Int) (l : List α) : Prop where
  d : ∀ i j, x1 ≤ i → i < j → j < x2 → (i < a ∨ b ≤ j) → R (gi l j) (gi l i) = false
  p : 0 < x1 → ∀ k, x1 ≤ k → k < x2 → R (gi l k) (gi l (x1 - 1)) = false
theorem Done.sw {x1 x2 a b : Int} {l l' : List α} (h : Done R x1 x2 a b l) (hs : Sw a b l l') (h0 : 0 ≤ x1 ∧ x1 ≤ a ∧ a ≤ b ∧ b ≤ x2 ∧ x2 ≤ l.length) : Done R x1 x2 a b l' := by
  have ho := fun (k : Int) (hk : 0 ≤ k) (h2 : k < a ∨ b ≤ k) => hs.out (by omega) (by omega) hk h2
  refine ⟨fun i j h1 h2 h3 h4 => ?_, fun hp k h1 h2 => ?_⟩
  · by_cases ei : i < a ∨ b ≤ i
    · rw [ho i (by omega) ei]
      by_cases ej : j < a ∨ b ≤ j
      · rw [ho j (by omega) ej]; exact h.d i j h1 h2 h3 h4
      · exact hs.all (by omega) (by omega) (P := fun y => R y (gi l i) = false) (fun k k1 k2 => h.d i k h1 (by omega) (by omega) (by omega)) j (by omega) (by omega)
    · rw [ho j (by omega) (by omega)]
      exact hs.all (by omega) (by omega) (P := fun y => R (gi l j) y = false) (fun k k1 k2 => h.d k j (by omega) (by omega) h3 (by omega)) i (by omega) (by omega)
  · rw [ho (x1 - 1) (by omega) (by omega)]
    by_cases ek : k < a ∨ b ≤ k
    · rw [ho k (by omega) ek]; exact h.p hp k h1 h2
    · exact hs.all (by omega) (by omega) (P := fun y => R y (gi l (x1 - 1)) = false) (fun k k1 k2 => h.p hp k (by omega) (by omega)) k (by omega) (by omega)
theorem Done.fin {x1 x2 a b : Int} {l : List α} (h : Done R x1 x2 a b l) (hs : Srt R a b l) : Srt R x1 x2 l := fun i j h1 h2 h3 => by
  by_cases e : i < a ∨ b ≤ j
  · exact h.d i j h1 h2 h3 e
  · exact hs i j (by omega) h2 (by omega)
theorem Done.pb {x1 x2 a b : Int} {l : List α} (h : Done R x1 x2 a b l) (h0 : 0 ≤ x1 ∧ x1 ≤ a ∧ b ≤ x2) (ha : 0 < a) : ∀ k, a ≤ k → k < b → R (gi l k) (gi l (a - 1)) = false := fun k h1 h2 => by
  by_cases e : a = x1
  · subst e; exact h.p ha k h1 (by omega)
  · exact h.d (a - 1) k (by omega) (by omega) (by omega) (by omega)
/-- The left part is sorted. -/
theorem Done.left (hR : SWO R) {x1 x2 a b mid : Int} {l l' : List α} {p : α} (h : Done R x1 x2 a b l) (h0 : 0 ≤ x1 ∧ x1 ≤ a ∧ b ≤ x2 ∧ x2 ≤ l.length ∧ a ≤ mid ∧ mid < b) (hp : gi l mid = p) (lo : ∀ k, a ≤ k → k < mid → R (gi l k) p = true) (hi : ∀ k, mid < k → k < b → R (gi l k) p = false)
    (hs : Sw a mid l l') (ht : Srt R a mid l') : Done R x1 x2 (mid + 1) b l' := by
  have hd := h.sw (hs.mono (c := a) (d := b) (by omega) (by omega)) (by omega)
  have ho := fun (k : Int) (hk : 0 ≤ k) (h2 : k < a ∨ mid ≤ k) => hs.out (by omega) (by omega) hk h2
  have lo' := hs.all (by omega) (by omega) (P := fun y => R y p = true) lo
  refine ⟨fun i j h1 h2 h3 h4 => ?_, hd.p⟩
  by_cases e : i < a ∨ b ≤ j
  · exact hd.d i j h1 h2 h3 e
  · by_cases ei : i < mid
    · by_cases ej : j < mid
      · exact ht i j (by omega) h2 ej
      · rw [ho j (by omega) (by omega)]
        by_cases ej2 : j = mid
        · subst ej2; rw [hp]; exact hR.asym _ _ (lo' i (by omega) ei)
        · exact hR.ntr _ _ _ (hi j (by omega) (by omega)) (hR.asym _ _ (lo' i (by omega) ei))
    · have e3 : i = mid := by omega
      subst e3
      rw [ho i (by omega) (by omega), ho j (by omega) (by omega), hp]
      exact hi j (by omega) (by omega)
/-- The right part is sorted. -/
theorem Done.right (hR : SWO R) {x1 x2 a b mid : Int} {l l' : List α} {p : α} (h : Done R x1 x2 a b l) (h0 : 0 ≤ x1 ∧ x1 ≤ a ∧ b ≤ x2 ∧ x2 ≤ l.length ∧ a ≤ mid ∧ mid < b) (hp : gi l mid = p) (lo : ∀ k, a ≤ k → k < mid → R (gi l k) p = true) (hi : ∀ k, mid < k → k < b → R (gi l k) p = false)
    (hs : Sw (mid + 1) b l l') (ht : Srt R (mid + 1) b l') : Done R x1 x2 a mid l' := by
  have hd := h.sw (hs.mono (c := a) (d := b) (by omega) (by omega)) (by omega)
  have ho := fun (k : Int) (hk : 0 ≤ k) (h2 : k < mid + 1 ∨ b ≤ k) => hs.out (by omega) (by omega) hk h2
  have hi' := hs.all (by omega) (by omega) (P := fun y => R y p = false) (fun k k1 k2 => hi k (by omega) k2)
  refine ⟨fun i j h1 h2 h3 h4 => ?_, hd.p⟩
  by_cases e : i < a ∨ b ≤ j
  · exact hd.d i j h1 h2 h3 e
  · by_cases ej : j = mid
    · subst ej
      rw [ho j (by omega) (by omega), ho i (by omega) (by omega), hp]
      exact hR.asym _ _ (lo i (by omega) h2)
    · by_cases ei : i < mid
      · rw [ho i (by omega) (by omega)]
        exact hR.ntr _ _ _ (hi' j (by omega) (by omega)) (hR.asym _ _ (lo i (by omega) ei))
      · by_cases ei2 : i = mid
        · subst ei2
          rw [ho i (by omega) (by omega), hp]
          exact hi' j (by omega) (by omega)
        · exact ht i j (by omega) h2 (by omega)
/-- The range's first part is like the one ahead of it. -/
theorem Done.eqs (hR : SWO R) {x1 x2 a b m : Int} {l l' : List α} {p : α} (h : Done R x1 x2 a b l) (h0 : 0 ≤ x1 ∧ x1 ≤ a ∧ b ≤ x2 ∧ x2 ≤ l.length ∧ a + 1 ≤ m ∧ m ≤ b) (ha : 0 < a) (hc : R (gi l (a - 1)) p = false) (hs : Sw a b l l') (hp : gi l' a = p)
    (lo : ∀ k, a < k → k < m → R p (gi l' k) = false) (hi : ∀ k, m ≤ k → k < b → R p (gi l' k) = true) : Done R x1 x2 m b l' := by
  have hd := h.sw hs (by omega)
  have hpb := hd.pb (by omega) ha
  have ho := hs.out (k := a - 1) (by omega) (by omega) (by omega) (by omega)
  have lo2 : ∀ k, a ≤ k → k < m → R p (gi l' k) = false := fun k h1 h2 => by
    by_cases e : k = a
    · subst e; rw [hp]; exact hR.irr _
    · exact lo k (by omega) h2
  refine ⟨fun i j h1 h2 h3 h4 => ?_, hd.p⟩
  by_cases e : i < a ∨ b ≤ j
  · exact hd.d i j h1 h2 h3 e
  · by_cases ej : j < m
    · have q := hpb j (by omega) (by omega)
      rw [ho] at q
      exact hR.ntr _ _ _ (hR.ntr _ _ _ q hc) (lo2 i (by omega) (by omega))
    · exact hR.ntr _ _ _ (hR.asym _ _ (hi j (by omega) (by omega))) (lo2 i (by omega) (by omega))
end
def C63 (R : Bool) : LV × List (Nat × BC) := (.bool R, [])
def implElder (x0 : Family) (x1 : Int) (x2 : Int) : Bool := (decide (((x0.people.getD x1.toNat default).born) < ((x0.people.getD x2.toNat default).born))) || ((decide (((x0.people.getD x1.toNat default).born) = ((x0.people.getD x2.toNat default).born))) && (decide (x1 < x2)))
def A63 (x0 : Family) (x1 : Int) (x2 : Int) : Ann := .reg 3 [] [] [6] [] [!(decide (((x0.people.getD x1.toNat default).born) < ((x0.people.getD x2.toNat default).born))), (!(decide (((x0.people.getD x1.toNat default).born) < ((x0.people.getD x2.toNat default).born)))) && (decide (((x0.people.getD x1.toNat default).born) = ((x0.people.getD x2.toNat default).born))), decide (((x0.people.getD x1.toNat default).born) < ((x0.people.getD x2.toNat default).born))] [pf (0 ≤ (x1 : Int) ∧ (x1 : Int) < ((x0.people.length : Nat) : Int)), pf (0 ≤ (x2 : Int) ∧ (x2 : Int) < ((x0.people.length : Nat) : Int)), gt (!(decide (((x0.people.getD x1.toNat default).born) < ((x0.people.getD x2.toNat default).born)))) (gt (decide (((x0.people.getD x1.toNat default).born) = ((x0.people.getD x2.toNat default).born))) (pf (((!(decide (((x0.people.getD x1.toNat default).born) < ((x0.people.getD x2.toNat default).born)))) && (decide (((x0.people.getD x1.toNat default).born) = ((x0.people.getD x2.toNat default).born)))) = true)))] [] [0, 4, 1, 1, 1, 5, 5, 1, 8, 10] (rt [] (C63 ((decide (((x0.people.getD x1.toNat default).born) < ((x0.people.getD x2.toNat default).born))) || ((decide (((x0.people.getD x1.toNat default).born) = ((x0.people.getD x2.toNat default).born))) && (decide (x1 < x2))))))
theorem ok_impl_isElder (x0 : Family) (x1 : Int) (x2 : Int) (h1 : 0 ≤ x1 ∧ x1 < x0.people.length) (h2 : 0 ≤ x2 ∧ x2 < x0.people.length) : FnT Try.prog 63 [.agg (cFamily false x0), .int .i64 x1, .int .i64 x2] (C63 (implElder x0 x1 x2)) := by
  have aux : ∀ R, implElder x0 x1 x2 = R → slim (C63 R) (A63 x0 x1 x2) [] := by
    intro R hR
    refine rg ⟨by trivial, by trivial, by ((try clear hR); intros; (try simp only [decide_eq_true_eq, decide_eq_false_iff_not, Bool.or_eq_true, Bool.and_eq_true, or_f_iff, not_f_iff, not_t_iff, Bool.not_eq_true', inR] at *); (repeat' apply And.intro) <;> (intros; omega)), trivial⟩ ?_
    exact congrArg C63 hR
  exact Fn.go 34 Try.func63 (by kernel_rfl) (by kernel_rfl) (by simp [C63, Frs, FrsL]) (A63 x0 x1 x2) (by kernel_rfl) (aux _ rfl)
def k63 (x0 : Family) (x1 : Int) (x2 : Int) : Cl := (hres (C63 (implElder x0 x1 x2)), k2 (ok_impl_isElder x0 x1 x2))
def OkL (f : Family) (l : List Int) : Prop := ∀ c ∈ l, 0 ≤ c ∧ c < f.people.length
theorem OkL.at {f : Family} {l : List Int} (h : OkL f l) {i : Int} (hi : 0 ≤ i ∧ i < l.length) : 0 ≤ l.getD i.toNat default ∧ l.getD i.toNat default < f.people.length := by
  have e : l.getD i.toNat default = l[i.toNat]'(by omega) := by rw [List.getD_eq_getElem?_getD, List.getElem?_eq_getElem (by omega)]; rfl
  rw [e]
  exact h _ (List.getElem_mem _)
theorem OkL.sw {f : Family} {l l' : List Int} (h : OkL f l) {a b : Int} (hs : Sw a b l l') (hab : 0 ≤ a ∧ b ≤ l.length) : OkL f l' := fun c hc => h c ((hs.perm hab.1 hab.2).mem_iff.1 hc)

def C62 (R : Bool) : LV × List (Nat × BC) := (.bool R, [])
def chosenLess (x0 : Int) (x1 : Int) (x2 : Family) (x3 : List Int) : Bool := implElder x2 (x3.getD x0.toNat default) (x3.getD x1.toNat default)
def A62 (x0 : Int) (x1 : Int) (x2 : Family) (x3 : List Int) : Ann := .reg 2 [] [(1009, k63 x2 (x3.getD x0.toNat default) (x3.getD x1.toNat default))] [6] [] [] [pf (0 ≤ (x0 : Int) ∧ (x0 : Int) < ((x3.length : Nat) : Int)), pf (0 ≤ (x1 : Int) ∧ (x1 : Int) < ((x3.length : Nat) : Int))] [] [0, 4, 8] (rt [] (C62 (implElder x2 (x3.getD x0.toNat default) (x3.getD x1.toNat default))))
structure SrtE where
  c0 : Family
  l : List Int
  deriving Inhabited
def kswE (d : Nat) (ids : List Nat) (l : List Int) (i j : Int) : Cl := (.resM d ids [(900000, .arr 1 (swp l i j).length (rowOf (cInt .i64) (swp l i j)))] (.tup []), k2 (P := FnX Try.prog 76 [.int .i64 i, .int .i64 j, .own 900000, .k Try.prog.globals.size 3] [.arr 1 l.length (rowOf (cInt .i64) l)] (.tup []) [(900000, .arr 1 (swp l i j).length (rowOf (cInt .i64) (swp l i j)))])
  fun hi hj => FnX.swap (b := true) (ag := false) Try.func76 (by kernel_rfl) (by kernel_rfl) (by kernel_rfl) (by rfl) (by kernel_rfl) (by kernel_rfl) (by kernel_rfl) (by intro _; rfl) hi hj)
def OkE (x : SrtE) : Prop := OkL x.c0 x.l

theorem ok_impl_chosen_1 (x0 : Int) (x1 : Int) (x2 : Family) (x3 : List Int) (h0 : 0 ≤ x0 ∧ x0 < x3.length) (h1 : 0 ≤ x1 ∧ x1 < x3.length) (hok : OkL x2 x3) : FnT Try.prog 62 [.int .i64 x0, .int .i64 x1, .ep [.ro false 6 x2.people.length (rowOf (cPerson false) x2.people), .ro false 4 x2.unions.length (rowOf (cUnion false) x2.unions)] 0, .ep [.ro false 1 x3.length (rowOf (cInt .i64) x3)] 0] (C62 (chosenLess x0 x1 x2 x3)) := by
  have aux : ∀ R, chosenLess x0 x1 x2 x3 = R → slim (C62 R) (A62 x0 x1 x2 x3) [] := by
    intro R hR
    refine rg ⟨by trivial, by trivial, ⟨by (have h8 := hok.at h0; have h9 := hok.at h1; omega), by (have h8 := hok.at h0; have h9 := hok.at h1; omega)⟩, trivial⟩ ?_
    exact congrArg C62 hR
  exact Fn.go 17 Try.func62 (by kernel_rfl) (by kernel_rfl) (by simp [C62, Frs, FrsL]) (A62 x0 x1 x2 x3) (by kernel_rfl) (aux _ rfl)
def k62 (x0 : Int) (x1 : Int) (x2 : Family) (x3 : List Int) : Cl := (hres (C62 (chosenLess x0 x1 x2 x3)), k3 (ok_impl_chosen_1 x0 x1 x2 x3))
def C83E (x0 : SrtE) (x1 : Int) (x2 : Int) (R : (List Int)) : LV × List (Nat × BC) := (.tup [], [(900000, .arr 1 R.length (rowOf (cInt .i64) R)), (900001, .var [.ro false 6 x0.c0.people.length (rowOf (cPerson false) x0.c0.people), .ro false 4 x0.c0.unions.length (rowOf (cUnion false) x0.c0.unions)]), (900002, .var [.own 900000])])
def insSortE (x0 : SrtE) (x1 : Int) (x2 : Int) : (List Int) := loopW (fun (v1 : Int × (List Int)) nx1 => bif (decide (v1.1 < x2)) then (loopW (fun (v2 : Int × (List Int)) next => bif ((decide (x1 < v2.1)) && (chosenLess v2.1 (v2.1 - 1) x0.c0 v2.2)) then (next (v2.1 - 1, (swp v2.2 v2.1 (v2.1 - 1)))) else (nx1 (v1.1 + 1, v2.2))) ((v1.1).toNat + 1) (v1.1, v1.2)) else v1.2) ((x2 - (x1 + 1)).toNat + 1) (x1 + 1, x0.l)
def D83Eb1 (x0 : SrtE) (x1 : Int) (x2 : Int) (v1 : Int × (List Int)) : Dl := ⟨[(6, .int .i64 v1.1)], [(900000, .arr 1 v1.2.length (rowOf (cInt .i64) v1.2))]⟩
def D83Eb2 (x0 : SrtE) (x1 : Int) (x2 : Int) (v1 : Int × (List Int)) (v2 : Int × (List Int)) : Dl := ⟨[(7, .int .i64 v2.1)], [(900000, .arr 1 v2.2.length (rowOf (cInt .i64) v2.2))]⟩
def A83Eb2 (x0 : SrtE) (x1 : Int) (x2 : Int) (v1 : Int × (List Int)) (v2 : Int × (List Int)) : Ann := .reg 1 [] [(9, cg (decide (x1 < v2.1)) (k62 v2.1 (v2.1 - 1) x0.c0 v2.2))] [1, 2, 3, 6, 7, 26] [3, 900000, 900001, 900002] [decide (x1 < v2.1)] [gt (decide (x1 < v2.1)) (pf (inR .i64 (v2.1 - 1)))] [] [1, 1, 0, 1, 1, 1, 4, 1] (cn ((decide (x1 < v2.1)) && (chosenLess v2.1 (v2.1 - 1) x0.c0 v2.2)) (.reg 1 [] [(5, kswE 504 [900000] v2.2 v2.1 (v2.1 - 1))] [1, 2, 3, 6, 7] [3, 900000, 900001, 900002] [] [pf (inR .i64 (v2.1 - 1))] [] [0, 4] (r1 1 [1, 2, 3, 6, 7] [3, 900000, 900001, 900002] [pf (inR .i64 (v2.1 - 1))] [0] (.next 0 [(900000, some 900000)] (D83Eb2 x0 x1 x2 v1 (v2.1 - 1, (swp v2.2 v2.1 (v2.1 - 1))))))) (r1 1 [1, 2, 3, 6] [3, 900000, 900001, 900002] [pf (inR .i64 (v1.1 + 1))] [0] (.next 1 [(900000, some 900000)] (D83Eb1 x0 x1 x2 (v1.1 + 1, v2.2)))))
def A83Eb1 (x0 : SrtE) (x1 : Int) (x2 : Int) (v1 : Int × (List Int)) : Ann := r0 1 [1, 2, 3, 6, 12] [3, 900000, 900001, 900002] (cn (decide (v1.1 < x2)) (r0 1 [1, 2, 3, 6, 7] [3, 900000, 900001, 900002] (.loop (Int × (List Int)) (D83Eb2 x0 x1 x2 v1) [] [] [(900000, some 900000)] (D83Eb2 x0 x1 x2 v1 (v1.1, v1.2)) (A83Eb2 x0 x1 x2 v1))) (rt [(900000, some 900000), (900001, some 900001), (900002, some 900002)] (C83E x0 x1 x2 v1.2)))
def A83E (x0 : SrtE) (x1 : Int) (x2 : Int) : Ann := r1 2 [1, 2, 3, 6] [3, 900000, 900001, 900002] [pf (inR .i64 (x1 + 1))] [0] (.loop (Int × (List Int)) (D83Eb1 x0 x1 x2) [] [] [(900000, some 900000)] (D83Eb1 x0 x1 x2 (x1 + 1, x0.l)) (A83Eb1 x0 x1 x2))
theorem insSortE_sw (x0 : SrtE) (x1 x2 : Int) (h : 0 ≤ x1 ∧ x1 ≤ x2) : Sw x1 x2 x0.l (insSortE x0 x1 x2) := by
  unfold insSortE
  refine loopW_to (fun v => x1 + 1 ≤ v.1 ∧ Sw x1 x2 x0.l v.2) (fun v => (x2 - v.1).toNat) (fun l => Sw x1 x2 x0.l l) (fun v next hv hn => ?_) _ _ (by dsimp only; omega) ⟨by simp, .refl⟩
  cases hc : decide (v.1 < x2) with
  | false => exact hv.2
  | true =>
    have hc := of_decide_eq_true hc
    refine loopW_to (fun w => (x1 ≤ w.1 ∧ w.1 ≤ v.1) ∧ Sw x1 x2 x0.l w.2) (fun w => w.1.toNat) (fun l => Sw x1 x2 x0.l l) (fun w next2 hw hn2 => ?_) _ _ (by dsimp only; omega) ⟨by dsimp only; omega, hv.2⟩
    cases hd : decide (x1 < w.1) && chosenLess w.1 (w.1 - 1) x0.c0 w.2 with
    | false => exact hn _ ⟨by dsimp only; omega, hw.2⟩ (by dsimp only; omega)
    | true =>
      simp only [Bool.and_eq_true, decide_eq_true_eq] at hd
      exact hn2 _ ⟨by dsimp only; omega, .step hw.2 _ _ (by omega) (by omega)⟩ (by dsimp only; omega)

theorem ok_sort_insertionSort_func_E (x0 : SrtE) (x1 : Int) (x2 : Int) (hx : x0.l.length ≤ 255) (hok : OkE x0) (hab : 0 ≤ x1 ∧ x1 ≤ x2 ∧ x2 ≤ x0.l.length) : FnMT Try.prog 83 [.agg [.clo 62 [.vp 900001 0, .vp 900002 0], .clo 76 [.own 900000, .k Try.prog.globals.size 3]], .int .i64 x1, .int .i64 x2] [.arr 1 x0.l.length (rowOf (cInt .i64) x0.l), .var [.ro false 6 x0.c0.people.length (rowOf (cPerson false) x0.c0.people), .ro false 4 x0.c0.unions.length (rowOf (cUnion false) x0.c0.unions)], .var [.own 900000]] (C83E x0 x1 x2 (insSortE x0 x1 x2)) := by
  have aux : ∀ R, insSortE x0 x1 x2 = R → slim (C83E x0 x1 x2 R) (A83E x0 x1 x2) [] := by
    intro R hR
    refine rg ⟨by ( intros; simp only [inR]; omega), trivial⟩ ?_
    revert hR; refine lW (fun v => x1 + 1 ≤ v.1 ∧ (Sw x1 x2 x0.l v.2 ∧ v.2.length = x0.l.length)) (fun v => (x2 - (v.1)).toNat) (by (((try clear hR); (try clear hK1); (try clear hK2); intros; (try simp only [w1, w2, w3, w4, w5, w6, swp_len, inR, IntKind.bits] at *)); refine ⟨by omega, ?_, trivial⟩; ((repeat first | refine Sw.step ?_ _ _ (by omega) (by omega)) <;> first | exact hI2.2.1 | exact hI1.2.1 | exact Sw.refl | exact hI2.2.1.mono (by omega) (by omega) | exact hI1.2.1.mono (by omega) (by omega)))) (Nat.lt_succ_self _) rfl fun m1 v1 F1 hI1 hM1 hR hK1 => ?_
    refine rg trivial ?_
    revert hR; refine cd (fun hc1 hR => ?_) fun hc1 hR => ?_
    ·
      refine rg trivial ?_
      revert hR; refine lW (fun v => (x1 ≤ v.1 ∧ v.1 ≤ v1.1) ∧ (Sw x1 x2 x0.l v.2 ∧ v.2.length = x0.l.length)) (fun v => (v.1).toNat) (by (((try clear hR); (try clear hK1); (try clear hK2); intros; (try simp only [w1, w2, w3, w4, w5, w6, swp_len, inR, IntKind.bits] at *)); refine ⟨by omega, Sw.both ?_⟩; ((repeat first | refine Sw.step ?_ _ _ (by omega) (by omega)) <;> first | exact hI2.2.1 | exact hI1.2.1 | exact Sw.refl | exact hI2.2.1.mono (by omega) (by omega) | exact hI1.2.1.mono (by omega) (by omega)))) (Nat.lt_succ_self _) rfl fun m2 v2 F2 hI2 hM2 hR hK2 => ?_
      refine rg ⟨by (((try clear hR); (try clear hK1); (try clear hK2); intros; (try simp only [w1, w2, w3, w4, w5, w6, swp_len, inR, IntKind.bits] at *)); omega), fun hg0 => ⟨by (((try clear hR); (try clear hK1); (try clear hK2); intros; (try simp only [w1, w2, w3, w4, w5, w6, swp_len, inR, IntKind.bits] at *)); omega), by (((try clear hR); (try clear hK1); (try clear hK2); intros; (try simp only [w1, w2, w3, w4, w5, w6, swp_len, inR, IntKind.bits] at *)); omega), by (exact OkL.sw (a := 0) (b := x0.l.length) hok (by ((try clear hR); (try clear hK1); (try clear hK2); intros; (try simp only [w1, w2, w3, w4, w5, w6, swp_len, inR, IntKind.bits] at *)); ((repeat first | refine Sw.step ?_ _ _ (by omega) (by omega)) <;> first | exact hI2.2.1 | exact hI1.2.1 | exact Sw.refl | exact hI2.2.1.mono (by omega) (by omega) | exact hI1.2.1.mono (by omega) (by omega))) ⟨by omega, by omega⟩)⟩, trivial⟩ ?_
      revert hR; refine cd (fun hc2 hR => ?_) fun hc2 hR => ?_
      ·
        refine rg ⟨by (((try clear hR); (try clear hK1); (try clear hK2); intros; (try simp only [w1, w2, w3, w4, w5, w6, swp_len, inR, IntKind.bits] at *)); omega), ⟨by (((try clear hR); (try clear hK1); (try clear hK2); intros; (try simp only [w1, w2, w3, w4, w5, w6, swp_len, inR, IntKind.bits] at *)); omega), by (((try clear hR); (try clear hK1); (try clear hK2); intros; (try simp only [w1, w2, w3, w4, w5, w6, swp_len, inR, IntKind.bits] at *)); omega)⟩, trivial⟩ ?_
        refine rg ⟨by (((try clear hR); (try clear hK1); (try clear hK2); intros; (try simp only [w1, w2, w3, w4, w5, w6, swp_len, inR, IntKind.bits] at *)); omega), trivial⟩ ?_
        exact hK2 (v2.1 - 1, (swp v2.2 v2.1 (v2.1 - 1))) (by (((try clear hR); (try clear hK1); (try clear hK2); intros; (try simp only [w1, w2, w3, w4, w5, w6, swp_len, inR, IntKind.bits] at *)); (repeat' apply And.intro) <;> first | omega | ((repeat first | refine Sw.step ?_ _ _ (by omega) (by omega)) <;> first | exact hI2.2.1 | exact hI1.2.1 | exact Sw.refl | exact hI2.2.1.mono (by omega) (by omega) | exact hI1.2.1.mono (by omega) (by omega)))) (by (((try clear hR); (try clear hK1); (try clear hK2); intros; (try simp only [w1, w2, w3, w4, w5, w6, swp_len, inR, IntKind.bits] at *)); omega)) hR
      ·
        refine rg ⟨by (((try clear hR); (try clear hK1); (try clear hK2); intros; (try simp only [w1, w2, w3, w4, w5, w6, swp_len, inR, IntKind.bits] at *)); omega), trivial⟩ ?_
        exact hK1 (v1.1 + 1, v2.2) (by (((try clear hR); (try clear hK1); (try clear hK2); intros; (try simp only [w1, w2, w3, w4, w5, w6, swp_len, inR, IntKind.bits] at *)); refine ⟨by omega, Sw.both ?_⟩; ((repeat first | refine Sw.step ?_ _ _ (by omega) (by omega)) <;> first | exact hI2.2.1 | exact hI1.2.1 | exact Sw.refl | exact hI2.2.1.mono (by omega) (by omega) | exact hI1.2.1.mono (by omega) (by omega)))) (by (((try clear hR); (try clear hK1); (try clear hK2); intros; (try simp only [w1, w2, w3, w4, w5, w6, swp_len, inR, IntKind.bits] at *)); omega)) hR
    ·
      exact congrArg (C83E x0 x1 x2) hR
  exact FnM.go 35 Try.func83 (by kernel_rfl) (by kernel_rfl) (A83E x0 x1 x2) (by kernel_rfl) (aux _ rfl)
def k83E (d : Nat) (ids : List Nat) (x0 : SrtE) (x1 : Int) (x2 : Int) : Cl := (hresM d ids (C83E x0 x1 x2 (insSortE x0 x1 x2)), k3 (ok_sort_insertionSort_func_E x0 x1 x2))
end Go.Proofs.Ytmefknjcgdbceaa
