import Derived.Test.YtanpfncfphpddaaV34
set_option maxHeartbeats 4000000
set_option linter.unusedSimpArgs false
set_option linter.unusedVariables false
namespace Go.Proofs.Ytanpfncfphpddaa
open Go Go.Lite Go.Proofs
theorem btw_val {x : Family} (hf : specIsFamily x = true) {a b : Int} (ha : 0 ≤ a ∧ a < x.people.length) (hb : 0 ≤ b ∧ b < x.people.length) : (between ⟨x, fun _ => none⟩ a b).1 = kn x a b := by
  have h4 := ((specIsFamily_iff _).1 hf).1
  have h5 := (btw_ok 100 ⟨x, fun _ => none⟩ a b hf ha hb (by omega) (SeenOk.nil _)).1
  unfold between
  exact h5
theorem kinship_eq (x : Family) (a b : Int) : implKinship x a b = specKinship x a b := by
  unfold implKinship specKinship
  cases h : (!l1Has x a || !l1Has x b)
  · have h2 := has2 h
    rw [(implHas2 x a b).2 h2, (kin_at h).2.2]
    simp only [Bool.not_true, cond_false]
    rw [btw_val h2.1 h2.2.1 h2.2.2, wholeDyad_eq (kn_rng h2.1 h2.2.1 h2.2.2).1.1]
  · have h2 : implHas x [a, b] = false := by
      rw [Bool.eq_false_iff]
      intro hh
      have h3 := (implHas2 x a b).1 hh
      rw [(l1Has_iff x a).2 ⟨h3.2.1, h3.1⟩, (l1Has_iff x b).2 ⟨h3.2.2, h3.1⟩] at h
      cases h
    rw [h2, Bool.not_false, cond_true, cond_true]
theorem kinInbreeding_val (x : Family) (p : Int) (hf : specIsFamily x = true) (hp : 0 ≤ p ∧ p < x.people.length) : (0 ≤ (kinInbreeding ⟨x, fun _ => none⟩ p).1 ∧ (kinInbreeding ⟨x, fun _ => none⟩ p).1 ≤ 1099511627776) ∧ dy (kinInbreeding ⟨x, fun _ => none⟩ p).1 = l8Inbreeding x (l8Table x) p := by
  unfold kinInbreeding l8Inbreeding
  dsimp only
  cases hc : (decide ((x.people.getD p.toNat default).father < 0) || decide ((x.people.getD p.toNat default).mother < 0))
  · have h1 := two_par hf hp hc
    have h2 := kn_rng hf h1.1 h1.2
    have h3 := btw_val hf h1.1 h1.2
    simp only [cond_false]
    rw [h3, ((l8Table_tab hf).at h1.1 h1.2).2.2]
    exact ⟨h2.1, Eq.refl _⟩
  · simp only [cond_true]
    exact ⟨⟨Int.le_refl _, by omega⟩, dy_zero⟩
end Go.Proofs.Ytanpfncfphpddaa
