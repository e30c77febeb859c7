import Derived.Test.YtanpfncfphpddabM31
set_option maxHeartbeats 4000000
set_option linter.unusedSimpArgs false
set_option linter.unusedVariables false
namespace Go.Proofs.Ytanpfncfphpddab
open Go Go.Lite Go.Proofs

theorem has2 {x : Family} {a b : Int} (h : (!l1Has x a || !l1Has x b) = false) : specIsFamily x = true ∧ (0 ≤ a ∧ a < x.people.length) ∧ 0 ≤ b ∧ b < x.people.length := by
  simp only [or_f_iff, not_f_iff, l1Has_iff] at h
  exact ⟨h.1.2, h.1.1, h.2.1⟩
/-- The two parents of a person that has both. -/
theorem two_par {x : Family} (hf : specIsFamily x = true) {p : Int} (hp : 0 ≤ p ∧ p < x.people.length) (hc : (decide ((x.people.getD p.toNat default).father < 0) || decide ((x.people.getD p.toNat default).mother < 0)) = false) :
    (0 ≤ (x.people.getD p.toNat default).father ∧ (x.people.getD p.toNat default).father < x.people.length) ∧ 0 ≤ (x.people.getD p.toNat default).mother ∧ (x.people.getD p.toNat default).mother < x.people.length := by
  simp only [or_f_iff, decide_eq_false_iff_not, Int.not_lt] at hc
  have h1 := dd_par hf hp (q := (x.people.getD p.toNat default).father) ⟨hc.1, .inl rfl⟩
  have h2 := dd_par hf hp (q := (x.people.getD p.toNat default).mother) ⟨hc.2, .inr rfl⟩
  omega
/-- What is noted is right. -/
def SeenOk (x : Family) (s : KV → Option Int) : Prop := ∀ (a b v : Int), s (KV.p a b) = some v → v = kn x a b
theorem SeenOk.nil (x : Family) : SeenOk x (fun _ => none) := fun a b v h => by cases h
theorem SeenOk.set {x : Family} {s : KV → Option Int} (h : SeenOk x s) {a b v : Int} (hv : v = kn x a b) : SeenOk x (mset s (KV.p a b) v) := by
  intro c d u hu
  unfold mset at hu
  split at hu
  · rename_i e; cases e; cases hu; exact hv
  · exact h c d u hu
theorem SeenOk.hit {x : Family} {s : KV → Option Int} (h : SeenOk x s) {a b : Int} (hc : (s (KV.p a b)).isSome = true) : (s (KV.p a b)).getD 0 = kn x a b := by
  cases e : s (KV.p a b) with
  | none => rw [e] at hc; cases hc
  | some v => exact h a b v e
theorem sumR {x : Family} (hf : specIsFamily x = true) {a b : Int} (ha : 0 ≤ a ∧ a < x.people.length) (hb : 0 ≤ b ∧ b < a) {n : Nat} (hn : n ≤ (l1Parents x a).length) :
    0 ≤ sumTo (fun k => kn x ((l1Parents x a).getD k default) b / 2) n ∧ sumTo (fun k => kn x ((l1Parents x a).getD k default) b / 2) n ≤ 1099511627776 := by
  have e1 : ((a.toNat : Nat) : Int) = a := by omega
  have e2 : ((b.toNat : Nat) : Int) = b := by omega
  have h := sumQ hf (i := a.toNat) (j := b.toNat) (by omega) (by omega) (n := n) (by rw [e1]; exact hn)
  rw [e1, e2] at h; exact h

end Go.Proofs.Ytanpfncfphpddab
