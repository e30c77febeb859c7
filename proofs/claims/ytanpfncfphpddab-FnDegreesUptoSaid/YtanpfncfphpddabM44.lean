import Derived.Test.YtanpfncfphpddabV43
set_option maxHeartbeats 4000000
set_option linter.unusedSimpArgs false
set_option linter.unusedVariables false
namespace Go.Proofs.Ytanpfncfphpddab
open Go Go.Lite Go.Proofs
theorem jn_eq {S α : Type} (f : (S → α) → α) (k : S → α) : jn f k = f k := rfl
theorem l1Some_ok {c : l01Cur} (h : CurOk c) {f : Family} {d : List Int} (hx : f.people.length ≤ 40) (s : Int) :
    ((l1Some c f d s).1 = -1 ∨ (0 ≤ (l1Some c f d s).1 ∧ (l1Some c f d s).1 < f.people.length ∧ (f.people.getD (l1Some c f d s).1.toNat default).sex = s ∧ d.getD (l1Some c f d s).1.toNat default < 10)) ∧ CurOk ⟨c.b, (l1Some c f d s).2.1, (l1Some c f d s).2.2⟩ := by
  unfold l1Some
  refine loopW_to (fun v => CurOk ⟨c.b, v.2.1, v.2.2⟩ ∧ 0 ≤ v.1 ∧ v.1 ≤ 6) (fun v => 6 - Int.toNat v.1) (fun (r : Int × Int × Int) => (r.1 = -1 ∨ (0 ≤ r.1 ∧ r.1 < f.people.length ∧ (f.people.getD r.1.toNat default).sex = s ∧ d.getD r.1.toNat default < 10)) ∧ CurOk ⟨c.b, r.2.1, r.2.2⟩) (fun v next hv hn => ?_) _ _ (Nat.lt_succ_self _) ⟨h, by simp, by simp⟩
  refine cond_both (p := fun (r : Int × Int × Int) => (r.1 = -1 ∨ (0 ≤ r.1 ∧ r.1 < f.people.length ∧ (f.people.getD r.1.toNat default).sex = s ∧ d.getD r.1.toNat default < 10)) ∧ CurOk ⟨c.b, r.2.1, r.2.2⟩) (fun c1 => ?_) (fun _ => ⟨.inl rfl, hv.1⟩)
  simp only [Bool.and_eq_true, decide_eq_true_eq] at c1
  have b1 := l01Below_ok hv.1 (n := ((f.people.length : Nat) : Int)) (by omega)
  have b2 := l01Once_ok b1.2 (n := 2) (by omega)
  have b3 := l01Below_ok b2 (n := Min.min ((f.people.length : Nat) : Int) 5) (by omega)
  dsimp only at b1 b2 b3
  have hk : ∀ a b, CurOk ⟨c.b, a, b⟩ → (next (v.1 + 1, a, b)).1 = (next (v.1 + 1, a, b)).1 → ((next (v.1 + 1, a, b)).1 = -1 ∨ (0 ≤ (next (v.1 + 1, a, b)).1 ∧ (next (v.1 + 1, a, b)).1 < f.people.length ∧ (f.people.getD (next (v.1 + 1, a, b)).1.toNat default).sex = s ∧ d.getD (next (v.1 + 1, a, b)).1.toNat default < 10)) ∧ CurOk ⟨c.b, (next (v.1 + 1, a, b)).2.1, (next (v.1 + 1, a, b)).2.2⟩ := fun a b hab _ => hn _ ⟨hab, by simp only; omega⟩ (by simp only; omega)
  simp only [jn_eq]
  refine cond_both (p := fun (r : Int × Int × Int) => (r.1 = -1 ∨ (0 ≤ r.1 ∧ r.1 < f.people.length ∧ (f.people.getD r.1.toNat default).sex = s ∧ d.getD r.1.toNat default < 10)) ∧ CurOk ⟨c.b, r.2.1, r.2.2⟩) (fun c2 => ?_) (fun c2 => ?_)
  · refine cond_both (p := fun (r : Int × Int × Int) => (r.1 = -1 ∨ (0 ≤ r.1 ∧ r.1 < f.people.length ∧ (f.people.getD r.1.toNat default).sex = s ∧ d.getD r.1.toNat default < 10)) ∧ CurOk ⟨c.b, r.2.1, r.2.2⟩) (fun c3 => ?_) (fun c3 => hk _ _ b3.2 rfl)
    simp only [Bool.and_eq_true, decide_eq_true_eq] at c3
    exact ⟨.inr ⟨by simp only; omega, by simp only; omega, c3.1, c3.2⟩, b3.2⟩
  · refine cond_both (p := fun (r : Int × Int × Int) => (r.1 = -1 ∨ (0 ≤ r.1 ∧ r.1 < f.people.length ∧ (f.people.getD r.1.toNat default).sex = s ∧ d.getD r.1.toNat default < 10)) ∧ CurOk ⟨c.b, r.2.1, r.2.2⟩) (fun c3 => ?_) (fun c3 => hk _ _ b2 rfl)
    simp only [Bool.and_eq_true, decide_eq_true_eq] at c3
    exact ⟨.inr ⟨b1.1.1, b1.1.2.2 (by omega), c3.1, c3.2⟩, b2⟩
theorem wed_born {x : Family} (hf : specIsFamily x = true) {r : Int} (hr : 0 ≤ r ∧ r < x.people.length) : 0 ≤ (x.people.getD r.toNat default).born ∧ (x.people.getD r.toNat default).born ≤ 9999 := (fam_p hf (k := r.toNat) (by omega)).born
theorem mem5 {n : Int} (h : n ∈ ([0, 1, 16, 20, 30] : List Int)) : 0 ≤ n ∧ n ≤ 30 := by
  simp only [List.mem_cons, List.not_mem_nil, or_false] at h; omega
theorem mem3 {n : Int} (h : n ∈ ([0, 1, 9] : List Int)) : 0 ≤ n ∧ n ≤ 9 := by
  simp only [List.mem_cons, List.not_mem_nil, or_false] at h; omega
end Go.Proofs.Ytanpfncfphpddab
