import Derived.Test.YtanpfncfphpddaaV31
set_option maxHeartbeats 4000000
set_option linter.unusedSimpArgs false
set_option linter.unusedVariables false
namespace Go.Proofs.Ytanpfncfphpddaa
open Go Go.Lite Go.Proofs
theorem l8Table_tab {x : Family} (hf : specIsFamily x = true) : Tab x (l8Table x) x.people.length := by
  unfold l8Table
  refine loopN_to (fun i v => Tab x v i) (fun r => Tab x r x.people.length) ⟨rfl, fun a ha => absurd ha (Nat.not_lt_zero _)⟩ (fun i v next hi hv hn => ?_) (fun v hv => hv)
  refine loopN_to (fun j (r : List Dyad) => r.length = j ∧ ∀ b : Nat, b < j → r.getD b default = dy (kn x (i : Int) b)) (fun r => Tab x r x.people.length) ⟨rfl, fun a ha => absurd ha (Nat.not_lt_zero _)⟩ (fun j r next2 hj hr hn2 => ?_) (fun r hr => ?_)
  · exact loopN_to (fun k (s : Int × Int) => Dyad.mk s.1 s.2 = dy (sumTo (fun k => kn x ((l1Parents x (i : Int)).getD k default) (j : Int) / 2) k)) (fun r => Tab x r x.people.length) dy_zero.symm (fun k s next3 hk hs hn3 => hn3 _ (sum_step hf hv hi hj hk hs rfl)) (fun s hs => hn2 _ (row_step hf hi hj hr hs))
  · cases hc : (decide (0 ≤ (x.people.getD i default).father) && decide (0 ≤ (x.people.getD i default).mother))
    · exact hn _ (tab_step hv hr (own_none hf hi hc))
    · exact hn _ (tab_step hv hr (own_some hf hv hi hc rfl).2.2)
theorem has2 {x : Family} {a b : Int} (h : (!l1Has x a || !l1Has x b) = false) : specIsFamily x = true ∧ (0 ≤ a ∧ a < x.people.length) ∧ 0 ≤ b ∧ b < x.people.length := by
  simp only [or_f_iff, not_f_iff, l1Has_iff] at h
  exact ⟨h.1.2, h.1.1, h.2.1⟩
theorem kin_at {x : Family} {a b : Int} (h : (!l1Has x a || !l1Has x b) = false) :
    (0 ≤ Max.max a b ∧ Max.max a b < (l8Table x).length) ∧ (0 ≤ Min.min a b ∧ Min.min a b < ((l8Table x).getD (Max.max a b).toNat default).length) ∧ ((l8Table x).getD (Max.max a b).toNat default).getD (Min.min a b).toNat default = dy (kn x a b) := (l8Table_tab (has2 h).1).at (has2 h).2.1 (has2 h).2.2
/-- The two parents of a person that has both. -/
theorem two_par {x : Family} (hf : specIsFamily x = true) {p : Int} (hp : 0 ≤ p ∧ p < x.people.length) (hc : (decide ((x.people.getD p.toNat default).father < 0) || decide ((x.people.getD p.toNat default).mother < 0)) = false) :
    (0 ≤ (x.people.getD p.toNat default).father ∧ (x.people.getD p.toNat default).father < x.people.length) ∧ 0 ≤ (x.people.getD p.toNat default).mother ∧ (x.people.getD p.toNat default).mother < x.people.length := by
  simp only [or_f_iff, decide_eq_false_iff_not, Int.not_lt] at hc
  have h1 := dd_par hf hp (q := (x.people.getD p.toNat default).father) ⟨hc.1, .inl rfl⟩
  have h2 := dd_par hf hp (q := (x.people.getD p.toNat default).mother) ⟨hc.2, .inr rfl⟩
  omega
/-- What is noted is right. -/
def SeenOk (x : Family) (s : KV → Option Int) : Prop := ∀ (a b v : Int), s (KV.p a b) = some v → v = kn x a b
theorem SeenOk.nil (x : Family) : SeenOk x (fun _ => none) := fun a b v h => by cases h
theorem SeenOk.set {x : Family} {s : KV → Option Int} (h : SeenOk x s) {a b v : Int} (hv : v = kn x a b) : SeenOk x (mset s (KV.p a b) v) := by
  intro c d u hu
  unfold mset at hu
  split at hu
  · rename_i e; cases e; cases hu; exact hv
  · exact h c d u hu
theorem SeenOk.hit {x : Family} {s : KV → Option Int} (h : SeenOk x s) {a b : Int} (hc : (s (KV.p a b)).isSome = true) : (s (KV.p a b)).getD 0 = kn x a b := by
  cases e : s (KV.p a b) with
  | none => rw [e] at hc; cases hc
  | some v => exact h a b v e
theorem sumR {x : Family} (hf : specIsFamily x = true) {a b : Int} (ha : 0 ≤ a ∧ a < x.people.length) (hb : 0 ≤ b ∧ b < a) {n : Nat} (hn : n ≤ (l1Parents x a).length) :
    0 ≤ sumTo (fun k => kn x ((l1Parents x a).getD k default) b / 2) n ∧ sumTo (fun k => kn x ((l1Parents x a).getD k default) b / 2) n ≤ 1099511627776 := by
  have e1 : ((a.toNat : Nat) : Int) = a := by omega
  have e2 : ((b.toNat : Nat) : Int) = b := by omega
  have h := sumQ hf (i := a.toNat) (j := b.toNat) (by omega) (by omega) (n := n) (by rw [e1]; exact hn)
  rw [e1, e2] at h; exact h
end Go.Proofs.Ytanpfncfphpddaa
