import Derived.Test.YtaageiiodlfeiaaVR2
set_option maxHeartbeats 4000000
set_option linter.unusedSimpArgs false
set_option linter.unusedVariables false
namespace Go.Proofs.Ytaageiiodlfeiaa
open Go Go.Lite Go.Proofs

theorem loopN_skip_from {S α : Type} {body : Nat → S → (S → α) → α} {k : S → α} {s : S} : ∀ (i m j : Nat), (∀ x next, j ≤ x → x < j + i → body x s next = next s) → loopN body k (i + m) j s = loopN body k m (j + i) s
  | 0, m, j, _ => by rw [Nat.zero_add]; rfl
  | i + 1, m, j, h => by
    rw [show i + 1 + m = (i + m) + 1 by omega, loopN, h j _ (Nat.le_refl _) (by omega), loopN_skip_from i m (j + 1) fun x next h1 h2 => h x next (by omega) (by omega)]
    rw [show j + 1 + i = j + (i + 1) by omega]
/-- Rounds that change nothing. -/
theorem loopN_skip {S α : Type} {body : Nat → S → (S → α) → α} {k : S → α} {s : S} {n : Nat} (i : Nat) (hi : i ≤ n) (h : ∀ x next, x < i → body x s next = next s) : loopN body k n 0 s = loopN body k (n - i) i s := by
  have := loopN_skip_from (body := body) (k := k) (s := s) i (n - i) 0 fun x next _ h2 => h x next (by omega)
  rw [show i + (n - i) = n by omega, Nat.zero_add] at this
  exact this
end Go.Proofs.Ytaageiiodlfeiaa
