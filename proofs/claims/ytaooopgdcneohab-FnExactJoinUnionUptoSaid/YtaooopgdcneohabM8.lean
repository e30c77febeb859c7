import Derived.Test.YtaooopgdcneohabM60
set_option maxHeartbeats 4000000
set_option linter.unusedSimpArgs false
set_option linter.unusedVariables false
namespace Go.Proofs.Ytaooopgdcneohab
open Go Go.Lite Go.Proofs
theorem jn_bif {S α : Type} (c : Bool) (a b : S) (k : S → α) : jn (fun K => bif c then K a else K b) k = k (bif c then a else b) := by cases c <;> rfl
theorem snoc_lt' {α : Type} {l : List α} {z d : α} {k : Nat} (h : k < l.length) : (l ++ [z]).getD k d = l.getD k d := by
  rw [getD_snoc, if_pos h]
theorem snoc_last {α : Type} {l : List α} {z d : α} {k : Nat} (h : k = l.length) : (l ++ [z]).getD k d = z := by
  rw [getD_snoc, if_neg (by omega), if_pos h]
theorem szUnionS_rng (x : List Union) (w : Int) : szUnionS x w ≤ max w (-1) ∧ -1 ≤ szUnionS x w := by
  unfold szUnionS
  cases h : decide (w - (x.length : Int) < 0)
  · have := of_decide_eq_false h; simp only [cond_false]; omega
  · simp only [cond_true]; omega
theorem szFamily_rng (x : Family) (w : Int) : szFamily x w ≤ max w (-1) ∧ -1 ≤ szFamily x w := by
  unfold szFamily
  have h1 := szPersonS_rng x.people w
  have h2 := szUnionS_rng x.unions (szPersonS x.people w)
  cases decide (szPersonS x.people w < 0)
  · cases decide (szUnionS x.unions (szPersonS x.people w) < 0)
    · simp only [cond_false]; omega
    · simp only [cond_false, cond_true]; omega
  · simp only [cond_true]; omega
theorem IsDist.bd {x : Family} {p : Int} {o : List Int} (h : IsDist x p o) (hp : Par x) (h0 : 0 ≤ p ∧ p < x.people.length) (k : Nat) : -1 ≤ o.getD k default ∧ o.getD k default ≤ p := by
  rcases Nat.lt_or_ge k x.people.length with hk | hk
  · rcases Int.lt_or_le (o.getD k default) 0 with c | c
    · have := (h.no k hk c).1; omega
    · have := ((h.yes k hk c).1).rng hp h0; omega
  · rw [List.getD_eq_getElem?_getD, List.getElem?_eq_none (by rw [h.len]; exact hk)]
    show -1 ≤ (0 : Int) ∧ (0 : Int) ≤ p
    omega
theorem l8Up_bd (x : Family) (p : Int) (hp : Par x) (h0 : 0 ≤ p ∧ p < x.people.length) (k : Nat) : -1 ≤ (l8Up x p).getD k default ∧ (l8Up x p).getD k default ≤ p := (l8Up_dist x p hp h0).bd hp h0 k
theorem stepsUp_bd (x : Family) (p : Int) (hp : Par x) (h0 : 0 ≤ p ∧ p < x.people.length) (k : Nat) : -1 ≤ (stepsUp x p).getD k default ∧ (stepsUp x p).getD k default ≤ p := (stepsUp_dist x p hp h0).bd hp h0 k
end Go.Proofs.Ytaooopgdcneohab
