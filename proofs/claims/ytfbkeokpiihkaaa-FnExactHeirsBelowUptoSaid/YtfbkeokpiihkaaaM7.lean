import Derived.Test.YtfbkeokpiihkaaaV7
set_option maxHeartbeats 4000000
set_option linter.unusedSimpArgs false
set_option linter.unusedVariables false
namespace Go.Proofs.Ytfbkeokpiihkaaa
open Go Go.Lite Go.Proofs
/-! ### Steps up: what both ways of reckoning find -/
/-- A person is n steps above another one. -/
inductive Up (x : Family) (p : Int) : Nat → Int → Prop
  | zero : Up x p 0 p
  | step {n : Nat} {a q : Int} (h : Up x p n a) (hq : q ∈ l1Parents x a) : Up x p (n + 1) q
/-- The list of the least steps up. -/
structure IsDist (x : Family) (p : Int) (o : List Int) : Prop where
  len : o.length = x.people.length
  no : ∀ k : Nat, k < x.people.length → o.getD k default < 0 → o.getD k default = -1 ∧ ∀ m, ¬ Up x p m k
  yes : ∀ k : Nat, k < x.people.length → 0 ≤ o.getD k default → Up x p (o.getD k default).toNat k ∧ ∀ m, Up x p m k → o.getD k default ≤ m
theorem IsDist.uniq {x : Family} {p : Int} {o o' : List Int} (h : IsDist x p o) (h' : IsDist x p o') : o = o' := by
  apply List.ext_getElem (by rw [h.len, h'.len])
  intro k hk hk'
  have hkn : k < x.people.length := by rw [← h.len]; exact hk
  have e : o.getD k default = o'.getD k default := by
    rcases Int.lt_or_le (o.getD k default) 0 with c | c
    · obtain ⟨a1, a2⟩ := h.no k hkn c
      rcases Int.lt_or_le (o'.getD k default) 0 with c' | c'
      · rw [a1, (h'.no k hkn c').1]
      · exact absurd (h'.yes k hkn c').1 (a2 _)
    · obtain ⟨a1, a2⟩ := h.yes k hkn c
      rcases Int.lt_or_le (o'.getD k default) 0 with c' | c'
      · exact absurd a1 ((h'.no k hkn c').2 _)
      · obtain ⟨b1, b2⟩ := h'.yes k hkn c'
        have := a2 _ b1
        have := b2 _ a1
        omega
  rw [List.getD_eq_getElem?_getD, List.getD_eq_getElem?_getD, List.getElem?_eq_getElem hk, List.getElem?_eq_getElem hk'] at e
  simpa using e
theorem getD_mem {α : Type} {l : List α} {k : Nat} {d : α} (hk : k < l.length) : l.getD k d ∈ l := by
  rw [List.getD_eq_getElem?_getD, List.getElem?_eq_getElem hk]; exact List.getElem_mem hk
end Go.Proofs.Ytfbkeokpiihkaaa
