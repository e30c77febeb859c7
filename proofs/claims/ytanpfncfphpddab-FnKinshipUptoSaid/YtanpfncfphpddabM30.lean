import Derived.Test.YtanpfncfphpddabV30
set_option maxHeartbeats 4000000
set_option linter.unusedSimpArgs false
set_option linter.unusedVariables false
namespace Go.Proofs.Ytanpfncfphpddab
open Go Go.Lite Go.Proofs
/-- Halved as often as may be. -/
def red : Int → Nat → Dyad
  | n, 0 => ⟨n, 0⟩
  | n, e + 1 => bif decide (n % 2 = 0) then red (n / 2) e else ⟨n, (e + 1 : Nat)⟩
theorem reduce_eq : ∀ (e : Nat) (n : Int) (m : Nat), 0 ≤ n → e < m → loopW (fun (v1 : Int × Int) next => bif ((decide (0 < v1.2)) && (decide ((v1.1.tmod 2) = 0))) then (next (v1.1.tdiv 2, v1.2 - 1)) else (Dyad.mk v1.1 v1.2)) m (n, (e : Int)) = red n e
  | 0, n, m + 1, _, _ => rfl
  | e + 1, n, m + 1, hn, hm => by
    simp only [loopW, red]
    rw [decide_eq_true (show (0 : Int) < ((e + 1 : Nat) : Int) by omega), Bool.true_and, Int.tmod_eq_emod_of_nonneg hn, Int.tdiv_eq_ediv_of_nonneg hn]
    cases decide (n % 2 = 0)
    · rfl
    · simp only [cond_true]
      rw [show ((e + 1 : Nat) : Int) - 1 = (e : Int) by omega]
      exact reduce_eq e (n / 2) m (by omega) (by omega)
theorem dyadOf_eq1 : ∀ (e : Nat) (n : Int) (m : Nat), 0 ≤ n → e < m → (loopW (fun (v1 : Int × Int) next => bif ((decide (0 < v1.2)) && (decide ((v1.1.tmod 2) = 0))) then (next (v1.1.tdiv 2, v1.2 - 1)) else ((Dyad.mk v1.1 v1.2), isDyad (Dyad.mk v1.1 v1.2))) m (n, (e : Int))).1 = red n e
  | 0, n, m + 1, _, _ => rfl
  | e + 1, n, m + 1, hn, hm => by
    simp only [loopW, red]
    rw [decide_eq_true (show (0 : Int) < ((e + 1 : Nat) : Int) by omega), Bool.true_and, Int.tmod_eq_emod_of_nonneg hn, Int.tdiv_eq_ediv_of_nonneg hn]
    cases decide (n % 2 = 0)
    · rfl
    · simp only [cond_true]
      rw [show ((e + 1 : Nat) : Int) - 1 = (e : Int) by omega]
      exact dyadOf_eq1 e (n / 2) m (by omega) (by omega)
/-- The dyad of n / 2^40. -/
def dy (n : Int) : Dyad := red n 40
theorem wholeDyad_eq {n : Int} (hn : 0 ≤ n) : wholeDyad n = dy n := by
  unfold wholeDyad dyadOf
  exact dyadOf_eq1 40 n _ hn (by decide)
theorem red_two (n : Int) (e : Nat) : red (2 * n) (e + 1) = red n e := by
  simp only [red]
  rw [decide_eq_true (show 2 * n % 2 = 0 by omega), cond_true, show 2 * n / 2 = n by omega]
theorem red_pow (n : Int) (e : Nat) : ∀ k : Nat, red (n * 2 ^ k) (e + k) = red n e
  | 0 => by simp
  | k + 1 => by
    rw [show n * 2 ^ (k + 1) = 2 * (n * 2 ^ k) by rw [Int.pow_succ, ← Int.mul_assoc, Int.mul_comm 2], show e + (k + 1) = (e + k) + 1 from rfl, red_two]
    exact red_pow n e k
theorem red_val : ∀ (e : Nat) (n : Int), 0 ≤ n → ∃ j k : Nat, (red n e).exp = j ∧ j + k = e ∧ (red n e).num * 2 ^ k = n ∧ 0 ≤ (red n e).num ∧ (j = 0 ∨ (red n e).num % 2 = 1)
  | 0, n, hn => ⟨0, 0, rfl, rfl, by simp [red], hn, .inl rfl⟩
  | e + 1, n, hn => by
    by_cases c : n % 2 = 0
    · simp only [red, decide_eq_true c, cond_true]
      obtain ⟨j, k, h1, h2, h3, h4, h5⟩ := red_val e (n / 2) (by omega)
      refine ⟨j, k + 1, h1, by omega, ?_, h4, h5⟩
      rw [Int.pow_succ, ← Int.mul_assoc, h3]; omega
    · simp only [red, decide_eq_false c, cond_false]
      exact ⟨e + 1, 0, rfl, rfl, by simp, hn, .inr (by first | omega | (simp only; omega))⟩
theorem dy_Dy {n : Int} (h : 0 ≤ n ∧ n ≤ 2199023255552) : Dy (dy n) := by
  obtain ⟨j, k, h1, h2, h3, h4, h5⟩ := red_val 40 n h.1
  refine ⟨h4, by unfold dy; omega, ?_⟩
  unfold dy
  rw [show (40 - (red n 40).exp).toNat = k by omega, h3]; exact h.2
theorem raise (K : Int × Int → Dyad) (j : Int) : ∀ (k : Nat) (a i : Int) (m : Nat), k < m → (j - i).toNat = k → loopW (fun (v : Int × Int) next => bif (decide (v.2 < j)) then (next (2 * v.1, v.2 + 1)) else K v) m (a, i) = K (a * 2 ^ k, i + k)
  | 0, a, i, m + 1, _, hk => by
    simp only [loopW]
    rw [decide_eq_false (by omega), cond_false]; simp
  | k + 1, a, i, m + 1, hm, hk => by
    simp only [loopW]
    rw [decide_eq_true (by omega), cond_true, raise K j k (2 * a) (i + 1) m (by omega) (by omega)]
    congr 2
    · rw [Int.pow_succ, Int.mul_comm (2 ^ k), ← Int.mul_assoc, Int.mul_comm 2]
    · omega
theorem dy_zero : dy 0 = ⟨0, 0⟩ := by rfl
theorem dy_half1 : dy 549755813888 = ⟨1, 1⟩ := by rfl
theorem dy_one : dy 1099511627776 = ⟨1, 0⟩ := by rfl
end Go.Proofs.Ytanpfncfphpddab
