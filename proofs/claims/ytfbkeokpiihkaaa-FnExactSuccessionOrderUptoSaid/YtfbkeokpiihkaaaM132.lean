import Derived.Test.YtfbkeokpiihkaaaVS21
set_option maxHeartbeats 4000000
set_option linter.unusedSimpArgs false
set_option linter.unusedVariables false
namespace Go.Proofs.Ytfbkeokpiihkaaa
open Go Go.Lite Go.Proofs
/-! ### The order of succession -/
def sucI (f : Family) (x : Custom) (y : Int) (v1 : Int × (List Int) × (KV → Option Bool) × (KV → Option Bool)) (next : Int × (List Int) × (KV → Option Bool) × (KV → Option Bool) → List Int) : List Int := bif (decide (0 ≤ v1.1)) then (next (wayUp f x v1.1, (below (heirList.mk f x y v1.2.1 v1.2.2.1 v1.2.2.2) v1.1).1, (below (heirList.mk f x y v1.2.1 v1.2.2.1 v1.2.2.2) v1.1).2.1, (below (heirList.mk f x y v1.2.1 v1.2.2.1 v1.2.2.2) v1.1).2.2)) else v1.2.1
def sucS (f : Family) (x : Custom) (y : Int) (v1 : (List Bool) × (List Int) × Int) (next : (List Bool) × (List Int) × Int → List Int) : List Int := bif (decide (0 ≤ v1.2.2)) then (next ((l10Below f x v1.2.2 y v1.1 v1.2.1).2, (l10Below f x v1.2.2 y v1.1 v1.2.1).1, l10Next f x v1.2.2)) else v1.2.1
theorem suc_same {f : Family} (hf : specIsFamily f = true) (x : Custom) (y : Int) : ∀ (m : Nat) (q : Int) (s : List Bool) (o : List Int) (g gone : KV → Option Bool), (-1 ≤ q ∧ q < f.people.length) → (q + 1).toNat < m → s.length = f.people.length → (∀ c : Int, 0 ≤ c → c < f.people.length → mk2 g c = mk1 s c) → (∀ q, mk2 gone q = true → Dn f x y (mk1 s) q) →
    loopW (sucI f x y) m (q, o, g, gone) = loopW (sucS f x y) m (s, o, q) := by
  intro m
  induction m with
  | zero => intro q s o g gone _ hm; exact absurd hm (Nat.not_lt_zero _)
  | succ m ih =>
    intro q s o g gone hq hm hs hr hG
    have hn := (fam_n hf).1
    show sucI f x y (q, o, g, gone) (loopW (sucI f x y) m) = sucS f x y (s, o, q) (loopW (sucS f x y) m)
    unfold sucI sucS
    dsimp only
    cases hc : decide (0 ≤ q) with
    | false => rfl
    | true =>
      have hc := of_decide_eq_true hc
      rw [cond_true, cond_true, next_way]
      have h := below_same hf x y 100 q s o g gone ⟨hc, hq.2⟩ (by omega) hs hr fun q' h1 _ => hG q' h1
      have hd := l10Below_done hf x y 100 q s o ⟨hc, hq.2⟩ (by omega) hs
      have h7 := way_lt hf x ⟨hc, hq.2⟩
      have h6 := way_ge hf x ⟨hc, hq.2⟩
      unfold below l10Below
      rw [h.1]
      exact ih (wayUp f x q) _ _ _ _ (by omega) (by omega) (hd.1.trans hs) h.2.1 fun q' h1 => by
        rcases h.2.2 q' h1 with h2 | h2
        · exact (hG q' h2).mono hd.2.1
        · exact h2.2
theorem mk1_rep (n : Nat) (c : Int) : mk1 (List.replicate n (default : Bool)) c = false := by
  unfold mk1
  rw [getD_rep]
  split <;> rfl
theorem implSucc_eq {f : Family} (hf : specIsFamily f = true) (x : Custom) {p : Int} (hp : 0 ≤ p ∧ p < f.people.length) (y : Int) : implSucc f x p y = loopW (sucS f x y) ((p + 1).toNat + 1) (((List.replicate f.people.length (default : Bool)).set p.toNat true), ([] : List Int), p) := by
  refine Eq.trans ?_ (suc_same hf x y ((p + 1).toNat + 1) p ((List.replicate f.people.length (default : Bool)).set p.toNat true) [] (mset (fun _ => none) (KV.i p) true) (fun _ => none) (by omega) (by omega) (by simp only [List.length_set, List.length_replicate]) (fun c h1 h2 => ?_) fun q h => ?_)
  · rfl
  · rw [mk2_set, mk1_set (List.replicate f.people.length (default : Bool)) (c := p) true (by simp only [List.length_replicate]; omega) h1]
    split
    · rfl
    · rw [mk1_rep]; rfl
  · cases h
theorem succ_eq (f : Family) (x : Custom) (p y : Int) : implSuccO f x p y = specSuccO f x p y := by
  unfold implSuccO specSuccO
  have e : ((!(implHas f [p])) || (!(implIsCustom x))) = ((!(specIsCustom x)) || (!(l1Has f p))) := by
    rw [isCustom_eq, has1_eq, Bool.or_comm]
  rw [e]
  cases h : ((!(specIsCustom x)) || (!(l1Has f p))) with
  | true => rfl
  | false =>
    simp only [or_f_iff, not_f_iff, l1Has_iff] at h
    exact implSucc_eq h.2.2 x h.2.1 y
theorem specSuccO_ok (f : Family) (x : Custom) (p y : Int) : (specSuccO f x p y).length ≤ 40 ∧ ∀ c ∈ specSuccO f x p y, 0 ≤ c ∧ c < f.people.length := by
  unfold specSuccO
  refine cond_both (p := fun (r : List Int) => r.length ≤ 40 ∧ ∀ c ∈ r, 0 ≤ c ∧ c < f.people.length) (fun _ => by simp) (fun h => ?_)
  simp only [or_f_iff, not_f_iff, l1Has_iff] at h
  have hf := h.2.2
  have hn := (fam_n hf).1
  refine loopW_to (fun (v : (List Bool) × (List Int) × Int) => (-1 ≤ v.2.2 ∧ v.2.2 < f.people.length) ∧ v.1.length = f.people.length ∧ HOk f v.2.1 (mk1 v.1)) (fun v => (v.2.2 + 1).toNat) (fun (r : List Int) => r.length ≤ 40 ∧ ∀ c ∈ r, 0 ≤ c ∧ c < f.people.length) (fun v next hv hnx => ?_) _ _ (by dsimp only; omega) ⟨by dsimp only; omega, by simp only [List.length_set, List.length_replicate], HOk.nil _ _⟩
  obtain ⟨h1, h2, h3⟩ := hv
  refine cond_both (p := fun (r : List Int) => r.length ≤ 40 ∧ ∀ c ∈ r, 0 ≤ c ∧ c < f.people.length) (fun hc => ?_) (fun _ => ⟨by have := h3.len; omega, fun c hc => (h3.rg c hc).1⟩)
  have hc := of_decide_eq_true hc
  have h7 := way_lt hf x ⟨hc, h1.2⟩
  have h6 := way_ge hf x ⟨hc, h1.2⟩
  have h5 := l10Below_hok 100 f x v.2.2 y v.1 v.2.1 hf ⟨hc, h1.2⟩ (by omega) h2 h3
  refine hnx _ ⟨?_, h5.1.trans h2, h5.2.1⟩ ?_
  · dsimp only; rw [next_way]; omega
  · dsimp only; rw [next_way]; omega
end Go.Proofs.Ytfbkeokpiihkaaa
