import Derived.Test.YtepefimocflfkaaM60
set_option maxHeartbeats 4000000
set_option linter.unusedSimpArgs false
set_option linter.unusedVariables false
namespace Go.Proofs.Ytepefimocflfkaa
open Go Go.Lite Go.Proofs
theorem IsDist.bd {x : Family} {p : Int} {o : List Int} (h : IsDist x p o) (hp : Par x) (h0 : 0 ≤ p ∧ p < x.people.length) (k : Nat) : -1 ≤ o.getD k default ∧ o.getD k default ≤ p := by
  rcases Nat.lt_or_ge k x.people.length with hk | hk
  · rcases Int.lt_or_le (o.getD k default) 0 with c | c
    · have := (h.no k hk c).1; omega
    · have := ((h.yes k hk c).1).rng hp h0; omega
  · rw [List.getD_eq_getElem?_getD, List.getElem?_eq_none (by rw [h.len]; exact hk)]
    show -1 ≤ (0 : Int) ∧ (0 : Int) ≤ p
    omega
theorem l8Up_bd (x : Family) (p : Int) (hp : Par x) (h0 : 0 ≤ p ∧ p < x.people.length) (k : Nat) : -1 ≤ (l8Up x p).getD k default ∧ (l8Up x p).getD k default ≤ p := (l8Up_dist x p hp h0).bd hp h0 k
theorem stepsUp_bd (x : Family) (p : Int) (hp : Par x) (h0 : 0 ≤ p ∧ p < x.people.length) (k : Nat) : -1 ≤ (stepsUp x p).getD k default ∧ (stepsUp x p).getD k default ≤ p := (stepsUp_dist x p hp h0).bd hp h0 k
end Go.Proofs.Ytepefimocflfkaa
