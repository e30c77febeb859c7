import Derived.Test.YtanfabaedopeiaaVR4
set_option maxHeartbeats 4000000
set_option linter.unusedSimpArgs false
set_option linter.unusedVariables false
namespace Go.Proofs.Ytanfabaedopeiaa
open Go Go.Lite Go.Proofs
/-! ### Steps as numbers -/
def stD (s : Step) : Nat := 3 * min s.kind.toNat 8 + min s.age.toNat 2
theorem stD_lt (s : Step) : stD s < 27 := by unfold stD; omega
def stN (l : List Step) (a : Nat) : Nat := l.foldl (fun n s => n * 27 + stD s) a
theorem stN_app (l m : List Step) (a : Nat) : stN (l ++ m) a = stN m (stN l a) := by unfold stN; rw [List.foldl_append]
theorem stN_add : ∀ (l : List Step) (a : Nat), stN l a = a * 27 ^ l.length + stN l 0
  | [], a => by simp [stN]
  | s :: l, a => by
    have e : ∀ x, stN (s :: l) x = stN l (x * 27 + stD s) := fun _ => rfl
    rw [e, e, stN_add l (a * 27 + stD s), stN_add l (0 * 27 + stD s), List.length_cons, Nat.pow_succ]
    rw [Nat.zero_mul, Nat.zero_add, Nat.add_mul, Nat.mul_assoc, Nat.mul_comm 27 (27 ^ l.length)]
    omega
theorem stN_lt : ∀ (l : List Step), stN l 0 < 27 ^ l.length
  | [] => by simp [stN]
  | s :: l => by
    have e : stN (s :: l) 0 = stN l (0 * 27 + stD s) := rfl
    have h1 := stN_lt l
    have h2 := stD_lt s
    rw [e, stN_add l, List.length_cons, Nat.pow_succ]
    have h3 : (0 * 27 + stD s) * 27 ^ l.length ≤ 26 * 27 ^ l.length := Nat.mul_le_mul_right _ (by omega)
    omega
theorem stN_mono (l : List Step) {a b : Nat} (h : a < b) : stN l a < stN l b := by
  rw [stN_add l a, stN_add l b]
  have h1 : (a + 1) * 27 ^ l.length ≤ b * 27 ^ l.length := Nat.mul_le_mul_right _ h
  have h2 : 0 < 27 ^ l.length := Nat.pow_pos (by omega)
  rw [Nat.add_mul, Nat.one_mul] at h1
  omega
def rank (l : List Step) : Nat := stN l 1
theorem rank_len {l m : List Step} (h : l.length < m.length) : rank l < rank m := by
  unfold rank
  rw [stN_add l 1, stN_add m 1]
  have h1 := stN_lt l
  have h2 : 27 ^ (l.length + 1) ≤ 27 ^ m.length := Nat.pow_le_pow_right (by omega) h
  rw [Nat.pow_succ] at h2
  omega
theorem rank_num (p q : List Step) {a b : List Step} (hl : a.length = b.length) (h : stN a 0 < stN b 0) : rank (p ++ a ++ q) < rank (p ++ b ++ q) := by
  unfold rank
  rw [stN_app, stN_app, stN_app, stN_app]
  refine stN_mono q ?_
  rw [stN_add a, stN_add b, hl]
  omega
/-- Digit by digit at least. -/
theorem stN_le : ∀ {l m : List Step}, l.length = m.length → (∀ k : Nat, k < l.length → stD (l.getD k default) ≤ stD (m.getD k default)) → stN l 0 ≤ stN m 0
  | [], [], _, _ => Nat.le_refl _
  | [], _ :: _, h, _ => by simp at h
  | _ :: _, [], h, _ => by simp at h
  | s :: l, t :: m, h, hk => by
    have h0 := hk 0 (by simp)
    have h1 := stN_le (l := l) (m := m) (by simpa using h) fun k hk' => by simpa using hk (k + 1) (by simpa using hk')
    have e : stN (s :: l) 0 = stN l (0 * 27 + stD s) := rfl
    have e2 : stN (t :: m) 0 = stN m (0 * 27 + stD t) := rfl
    have h0 : stD s ≤ stD t := h0
    rw [e, e2, stN_add l, stN_add m, show l.length = m.length by simpa using h]
    have : (0 * 27 + stD s) * 27 ^ m.length ≤ (0 * 27 + stD t) * 27 ^ m.length := Nat.mul_le_mul_right _ (by omega)
    omega
/-- At the first difference less. -/
theorem stN_first : ∀ {l m : List Step} (i : Nat), l.length = m.length → i < l.length → (∀ k : Nat, k < i → stD (l.getD k default) = stD (m.getD k default)) → stD (l.getD i default) < stD (m.getD i default) → stN l 0 < stN m 0
  | [], _, i, _, hi, _, _ => absurd hi (Nat.not_lt_zero _)
  | _ :: _, [], _, h, _, _, _ => by simp at h
  | s :: l, t :: m, 0, h, _, _, hd => by
    have hd : stD s < stD t := hd
    have hl : l.length = m.length := by simpa using h
    have e : stN (s :: l) 0 = stN l (0 * 27 + stD s) := rfl
    have e2 : stN (t :: m) 0 = stN m (0 * 27 + stD t) := rfl
    rw [e, e2, stN_add l, stN_add m, hl]
    have h1 := stN_lt l
    rw [hl] at h1
    have h3 : (stD s + 1) * 27 ^ m.length ≤ stD t * 27 ^ m.length := Nat.mul_le_mul_right _ hd
    rw [Nat.add_mul, Nat.one_mul] at h3
    rw [Nat.zero_mul, Nat.zero_add, Nat.zero_add]
    omega
  | s :: l, t :: m, i + 1, h, hi, hk, hd => by
    have hl : l.length = m.length := by simpa using h
    have h0 : stD s = stD t := hk 0 (by omega)
    have ih := stN_first (l := l) (m := m) i hl (by simpa using hi) (fun k hk' => by simpa using hk (k + 1) (by omega)) (by simpa using hd)
    have e : stN (s :: l) 0 = stN l (0 * 27 + stD s) := rfl
    have e2 : stN (t :: m) 0 = stN m (0 * 27 + stD t) := rfl
    rw [e, e2, stN_add l, stN_add m, hl, h0]
    omega
theorem loopN_skip_from {S α : Type} {body : Nat → S → (S → α) → α} {k : S → α} {s : S} : ∀ (i m j : Nat), (∀ x next, j ≤ x → x < j + i → body x s next = next s) → loopN body k (i + m) j s = loopN body k m (j + i) s
  | 0, m, j, _ => by rw [Nat.zero_add]; rfl
  | i + 1, m, j, h => by
    rw [show i + 1 + m = (i + m) + 1 by omega, loopN, h j _ (Nat.le_refl _) (by omega), loopN_skip_from i m (j + 1) fun x next h1 h2 => h x next (by omega) (by omega)]
    rw [show j + 1 + i = j + (i + 1) by omega]
/-- Rounds that change nothing. -/
theorem loopN_skip {S α : Type} {body : Nat → S → (S → α) → α} {k : S → α} {s : S} {n : Nat} (i : Nat) (hi : i ≤ n) (h : ∀ x next, x < i → body x s next = next s) : loopN body k n 0 s = loopN body k (n - i) i s := by
  have := loopN_skip_from (body := body) (k := k) (s := s) i (n - i) 0 fun x next _ h2 => h x next (by omega)
  rw [show i + (n - i) = n by omega, Nat.zero_add] at this
  exact this
end Go.Proofs.Ytanfabaedopeiaa
