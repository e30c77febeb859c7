import Derived.Test.YtepefimocflfkaaV7
set_option maxHeartbeats 4000000
set_option linter.unusedSimpArgs false
set_option linter.unusedVariables false
namespace Go.Proofs.Ytepefimocflfkaa
open Go Go.Lite Go.Proofs
/-! ### Steps up: what both ways of reckoning find -/
/-- A person is n steps above another one. -/
inductive Up (x : Family) (p : Int) : Nat → Int → Prop
  | zero : Up x p 0 p
  | step {n : Nat} {a q : Int} (h : Up x p n a) (hq : q ∈ l1Parents x a) : Up x p (n + 1) q
/-- The list of the least steps up. -/
structure IsDist (x : Family) (p : Int) (o : List Int) : Prop where
  len : o.length = x.people.length
  no : ∀ k : Nat, k < x.people.length → o.getD k default < 0 → o.getD k default = -1 ∧ ∀ m, ¬ Up x p m k
  yes : ∀ k : Nat, k < x.people.length → 0 ≤ o.getD k default → Up x p (o.getD k default).toNat k ∧ ∀ m, Up x p m k → o.getD k default ≤ m
theorem IsDist.uniq {x : Family} {p : Int} {o o' : List Int} (h : IsDist x p o) (h' : IsDist x p o') : o = o' := by
  apply List.ext_getElem (by rw [h.len, h'.len])
  intro k hk hk'
  have hkn : k < x.people.length := by rw [← h.len]; exact hk
  have e : o.getD k default = o'.getD k default := by
    rcases Int.lt_or_le (o.getD k default) 0 with c | c
    · obtain ⟨a1, a2⟩ := h.no k hkn c
      rcases Int.lt_or_le (o'.getD k default) 0 with c' | c'
      · rw [a1, (h'.no k hkn c').1]
      · exact absurd (h'.yes k hkn c').1 (a2 _)
    · obtain ⟨a1, a2⟩ := h.yes k hkn c
      rcases Int.lt_or_le (o'.getD k default) 0 with c' | c'
      · exact absurd a1 ((h'.no k hkn c').2 _)
      · obtain ⟨b1, b2⟩ := h'.yes k hkn c'
        have := a2 _ b1
        have := b2 _ a1
        omega
  rw [List.getD_eq_getElem?_getD, List.getD_eq_getElem?_getD, List.getElem?_eq_getElem hk, List.getElem?_eq_getElem hk'] at e
  simpa using e
/-- Parents stand ahead. -/
def Par (x : Family) : Prop := ∀ (k : Nat), k < x.people.length → (x.people.getD k default).father < k ∧ (x.people.getD k default).mother < k
theorem mem_getD {α : Type} {l : List α} {q d : α} (h : q ∈ l) : ∃ k, k < l.length ∧ l.getD k d = q := by
  obtain ⟨k, hk, e⟩ := List.getElem_of_mem h
  exact ⟨k, hk, by rw [List.getD_eq_getElem?_getD, List.getElem?_eq_getElem hk, Option.getD_some, e]⟩
theorem getD_mem {α : Type} {l : List α} {k : Nat} {d : α} (hk : k < l.length) : l.getD k d ∈ l := by
  rw [List.getD_eq_getElem?_getD, List.getElem?_eq_getElem hk]; exact List.getElem_mem hk
theorem parent_lt {x : Family} (hp : Par x) {a q : Int} (ha : 0 ≤ a ∧ a < x.people.length) (hq : q ∈ l1Parents x a) : 0 ≤ q ∧ q < a := by
  obtain ⟨k, hk, e⟩ := mem_getD (d := default) hq
  have h1 := (l1Parents_rng x a).2 k hk
  rw [e] at h1
  have h2 := hp a.toNat (by omega)
  omega
theorem Up.rng {x : Family} (hp : Par x) {p : Int} (h0 : 0 ≤ p ∧ p < x.people.length) {n : Nat} {k : Int} (h : Up x p n k) : 0 ≤ k ∧ k < x.people.length ∧ k + n ≤ p := by
  induction h with
  | zero => omega
  | step _ hq ih => have := parent_lt hp ⟨ih.1, ih.2.1⟩ hq; omega
end Go.Proofs.Ytepefimocflfkaa
