import Derived.Test.YtanpfncfphpddabV52
set_option maxHeartbeats 4000000
set_option linter.unusedSimpArgs false
set_option linter.unusedVariables false
namespace Go.Proofs.Ytanpfncfphpddab
open Go Go.Lite Go.Proofs
/-! ### Degrees -/
/-- How far above. -/
def St (x : Family) (p q : Int) : Int := (l8Up x p).getD q.toNat default
theorem St.up {x : Family} (hf : specIsFamily x = true) {p q : Int} (hp : 0 ≤ p ∧ p < x.people.length) (hq : 0 ≤ q ∧ q < x.people.length) (h : 0 ≤ St x p q) : Up x p (St x p q).toNat q ∧ ∀ m, Up x p m q → St x p q ≤ m := by
  have := (l8Up_dist x p (isFamily_par x hf) hp).yes q.toNat (by omega) h
  rw [show ((q.toNat : Nat) : Int) = q by omega] at this
  exact this
theorem St.self {x : Family} (hf : specIsFamily x = true) {p : Int} (hp : 0 ≤ p ∧ p < x.people.length) : St x p p = 0 := by
  have h1 := (above_iff hf hp hp).2 (Above.self x p)
  have := (St.up hf hp hp h1).2 0 .zero
  have h1 : 0 ≤ St x p p := h1
  omega
theorem St.zero {x : Family} (hf : specIsFamily x = true) {p q : Int} (hp : 0 ≤ p ∧ p < x.people.length) (hq : 0 ≤ q ∧ q < x.people.length) (h : St x p q = 0) : q = p := by
  have := (St.up hf hp hq (by omega)).1
  rw [h] at this
  cases this; rfl
/-- A list of common ancestors with what is above whom. -/
def Com (x : Family) (a b : Int) (l : List Int) : Prop := ∀ q, q ∈ l ↔ Above x a q ∧ Above x b q
theorem implCommon_com {x : Family} (hf : specIsFamily x = true) {a b : Int} (ha : 0 ≤ a ∧ a < x.people.length) (hb : 0 ≤ b ∧ b < x.people.length) : Com x a b (commonAncestors x a b) := by
  rw [commonAncestors_eq x a b (isFamily_par x hf) ha hb]
  exact l8Common_iff hf ha hb
/-- The least sum of steps. -/
structure Civ (x : Family) (a b : Int) (r : Int × Bool) : Prop where
  ok : r.2 = true ↔ ∃ q, Above x a q ∧ Above x b q
  no : r.2 = false → r.1 = 0
  is : r.2 = true → ∃ q, Above x a q ∧ Above x b q ∧ r.1 = St x a q + St x b q
  le : r.2 = true → ∀ q, Above x a q → Above x b q → r.1 ≤ St x a q + St x b q
structure Can (x : Family) (a b : Int) (r : Int × Bool) : Prop where
  ok : r.2 = true ↔ ∃ q, Above x a q ∧ Above x b q
  no : r.2 = false → r.1 = 0
  is : r.2 = true → ∃ q, Above x a q ∧ Above x b q ∧ r.1 = Max.max (St x a q) (St x b q)
  le : r.2 = true → ∀ q, Above x a q → Above x b q → r.1 ≤ Max.max (St x a q) (St x b q)
theorem Civ.symm {x : Family} {a b : Int} {r s : Int × Bool} (h : Civ x a b r) (h2 : Civ x b a s) : r = s := by
  have e : r.2 = s.2 := by
    rw [Bool.eq_iff_iff, h.ok, h2.ok]
    exact ⟨fun ⟨q, g1, g2⟩ => ⟨q, g2, g1⟩, fun ⟨q, g1, g2⟩ => ⟨q, g2, g1⟩⟩
  cases c : r.2 with
  | false => exact Prod.ext (by rw [h.no c, h2.no (e ▸ c)]) e
  | true =>
    have c2 : s.2 = true := e ▸ c
    obtain ⟨q, g1, g2, g3⟩ := h.is c
    obtain ⟨q', k1, k2, k3⟩ := h2.is c2
    have := h.le c q' k2 k1
    have := h2.le c2 q g2 g1
    exact Prod.ext (by omega) e
theorem Can.symm {x : Family} {a b : Int} {r s : Int × Bool} (h : Can x a b r) (h2 : Can x b a s) : r = s := by
  have e : r.2 = s.2 := by
    rw [Bool.eq_iff_iff, h.ok, h2.ok]
    exact ⟨fun ⟨q, g1, g2⟩ => ⟨q, g2, g1⟩, fun ⟨q, g1, g2⟩ => ⟨q, g2, g1⟩⟩
  cases c : r.2 with
  | false => exact Prod.ext (by rw [h.no c, h2.no (e ▸ c)]) e
  | true =>
    have c2 : s.2 = true := e ▸ c
    obtain ⟨q, g1, g2, g3⟩ := h.is c
    obtain ⟨q', k1, k2, k3⟩ := h2.is c2
    have := h.le c q' k2 k1
    have := h2.le c2 q g2 g1
    exact Prod.ext (by omega) e
theorem implLinkOf_civ {x : Family} (hf : specIsFamily x = true) {a b : Int} (ha : 0 ≤ a ∧ a < x.people.length) (hb : 0 ≤ b ∧ b < x.people.length) : Civ x a b (implCivil x a b) := by
  unfold implCivil implLinkOf
  rw [(implHas2 x a b).2 ⟨hf, ha, hb⟩]
  simp only [Bool.not_true, cond_false]
  have hc := implCommon_com hf ha hb
  unfold linkOf
  rw [stepsUp_eq x a (isFamily_par x hf) ha, stepsUp_eq x b (isFamily_par x hf) hb]
  revert hc
  generalize commonAncestors x a b = l
  intro hc
  refine loopN_to (fun i (v : Int × Int × Bool) => i ≤ l.length ∧ (v.2.2 = true ↔ 0 < i) ∧ (v.2.2 = false → v.1 = 0 ∧ v.2.1 = 0) ∧ (v.2.2 = true → (∃ k, k < i ∧ v.1 = St x a (l.getD k default) ∧ v.2.1 = St x b (l.getD k default)) ∧ ∀ k, k < i → v.1 + v.2.1 ≤ St x a (l.getD k default) + St x b (l.getD k default)))
    (fun (r : Int × Int × Bool) => Civ x a b (r.1 + r.2.1, r.2.2)) ⟨Nat.zero_le _, by simp, fun _ => ⟨rfl, rfl⟩, fun h => by cases h⟩ (fun i v next hi hv hn => ?_) (fun v hv => ?_)
  · obtain ⟨_, v1, v2, v3⟩ := hv
    have rep : (v.2.2 = false ∨ St x a (l.getD i default) + St x b (l.getD i default) ≤ v.1 + v.2.1) → Civ x a b ((next (St x a (l.getD i default), St x b (l.getD i default), true)).1 + (next (St x a (l.getD i default), St x b (l.getD i default), true)).2.1, (next (St x a (l.getD i default), St x b (l.getD i default), true)).2.2) := fun hh => hn _ ⟨hi, by simp, fun h => (by cases h), fun _ => ⟨⟨i, by omega, rfl, rfl⟩, fun k hk => by
      simp only
      rcases Nat.lt_or_ge k i with c | c
      · have h1 := v1.2 (by omega)
        have h2 := (v3 h1).2 k c
        rcases hh with hh | hh
        · rw [h1] at hh; cases hh
        · omega
      · rw [show k = i by omega]; exact Int.le_refl _⟩⟩
    have kee : v.2.2 = true → v.1 + v.2.1 ≤ St x a (l.getD i default) + St x b (l.getD i default) → Civ x a b ((next (v.1, v.2.1, v.2.2)).1 + (next (v.1, v.2.1, v.2.2)).2.1, (next (v.1, v.2.1, v.2.2)).2.2) := fun h1 hh => hn _ ⟨hi, by simp [h1], fun h => (by rw [h1] at h; cases h), fun _ => by
      obtain ⟨⟨k, g1, g2, g3⟩, g4⟩ := v3 h1
      refine ⟨⟨k, by omega, g2, g3⟩, fun k hk => ?_⟩
      rcases Nat.lt_or_ge k i with c | c
      · exact g4 k c
      · rw [show k = i by omega]; exact hh⟩
    refine cond_both (p := fun (r : Int × Int × Bool) => Civ x a b (r.1 + r.2.1, r.2.2)) (fun c => rep (.inl (by simpa using c))) (fun c => ?_)
    have c : v.2.2 = true := by simpa using c
    refine cond_both (p := fun (r : Int × Int × Bool) => Civ x a b (r.1 + r.2.1, r.2.2)) (fun c1 => ?_) (fun c1 => ?_)
    · refine cond_both (p := fun (r : Int × Int × Bool) => Civ x a b (r.1 + r.2.1, r.2.2)) (fun c2 => kee c ?_) (fun c2 => rep (.inr ?_))
      · have := of_decide_eq_true c2; unfold St; omega
      · have := of_decide_eq_false c2; unfold St; omega
    · have c1 : (l8Up x a).getD (l.getD i default).toNat default + (l8Up x b).getD (l.getD i default).toNat default = v.1 + v.2.1 := by simpa using c1
      have e1 : v.1 + v.2.1 ≤ St x a (l.getD i default) + St x b (l.getD i default) := by unfold St; omega
      have e2 : St x a (l.getD i default) + St x b (l.getD i default) ≤ v.1 + v.2.1 := by unfold St; omega
      refine cond_both (p := fun (r : Int × Int × Bool) => Civ x a b (r.1 + r.2.1, r.2.2)) (fun _ => ?_) (fun _ => ?_)
      · exact cond_both (p := fun (r : Int × Int × Bool) => Civ x a b (r.1 + r.2.1, r.2.2)) (fun _ => kee c e1) (fun _ => rep (.inr e2))
      · exact cond_both (p := fun (r : Int × Int × Bool) => Civ x a b (r.1 + r.2.1, r.2.2)) (fun _ => kee c e1) (fun _ => rep (.inr e2))
  · obtain ⟨_, v1, v2, v3⟩ := hv
    refine ⟨⟨fun h => ?_, fun ⟨q, hq⟩ => ?_⟩, fun h => (by have := v2 h; simp only; omega), fun h => ?_, fun h q h1 h2 => ?_⟩
    · obtain ⟨⟨k, g1, _⟩, _⟩ := v3 h
      exact ⟨_, (hc _).1 (getD_mem (d := (default : Int)) g1)⟩
    · obtain ⟨k, hk, _⟩ := mem_getD (d := default) ((hc q).2 hq)
      exact v1.2 (by omega)
    · obtain ⟨⟨k, g1, g2, g3⟩, _⟩ := v3 h
      have := (hc _).1 (getD_mem (d := default) g1)
      exact ⟨_, this.1, this.2, by simp only; rw [g2, g3]⟩
    · obtain ⟨k, hk, e⟩ := mem_getD (d := default) ((hc q).2 ⟨h1, h2⟩)
      have := (v3 h).2 k hk
      rw [e] at this; exact this
theorem implCanon_can {x : Family} (hf : specIsFamily x = true) {a b : Int} (ha : 0 ≤ a ∧ a < x.people.length) (hb : 0 ≤ b ∧ b < x.people.length) : Can x a b (implCanon x a b) := by
  unfold implCanon
  rw [(implHas2 x a b).2 ⟨hf, ha, hb⟩]
  simp only [Bool.not_true, cond_false]
  have hc := implCommon_com hf ha hb
  unfold canonDegree
  rw [stepsUp_eq x a (isFamily_par x hf) ha, stepsUp_eq x b (isFamily_par x hf) hb]
  revert hc
  generalize commonAncestors x a b = l
  intro hc
  refine loopN_to (fun i (v : Int × Bool) => i ≤ l.length ∧ (v.2 = true ↔ 0 < i) ∧ (v.2 = false → v.1 = 0) ∧ (v.2 = true → (∃ k, k < i ∧ v.1 = Max.max (St x a (l.getD k default)) (St x b (l.getD k default))) ∧ ∀ k, k < i → v.1 ≤ Max.max (St x a (l.getD k default)) (St x b (l.getD k default))))
    (fun (r : Int × Bool) => Can x a b (r.1, r.2)) ⟨Nat.zero_le _, by simp, fun _ => rfl, fun h => by cases h⟩ (fun i v next hi hv hn => ?_) (fun v hv => ?_)
  · obtain ⟨_, v1, v2, v3⟩ := hv
    refine cond_both (p := fun (r : Int × Bool) => Can x a b (r.1, r.2)) (fun c => hn _ ⟨hi, by simp, fun h => (by cases h), fun _ => ⟨⟨i, by omega, rfl⟩, fun k hk => ?_⟩⟩) (fun c => ?_)
    · simp only
      rcases Nat.lt_or_ge k i with c3 | c3
      · have h1 := v1.2 (by omega)
        have h2 := (v3 h1).2 k c3
        simp only [h1, Bool.not_true, Bool.false_or, decide_eq_true_eq] at c
        have c : Max.max (St x a (l.getD i default)) (St x b (l.getD i default)) < v.1 := c
        show Max.max (St x a (l.getD i default)) (St x b (l.getD i default)) ≤ _
        omega
      · rw [show k = i by omega]; exact Int.le_refl _
    · simp only [or_f_iff, not_f_iff, decide_eq_false_iff_not] at c
      have h1 := c.1
      have c2 : ¬ Max.max (St x a (l.getD i default)) (St x b (l.getD i default)) < v.1 := c.2
      obtain ⟨⟨k, g1, g2⟩, g4⟩ := v3 h1
      refine hn _ ⟨hi, by simp [h1], fun h => (by simp only at h; rw [h1] at h; cases h), fun _ => ⟨⟨k, by omega, g2⟩, fun k hk => ?_⟩⟩
      rcases Nat.lt_or_ge k i with c3 | c3
      · exact g4 k c3
      · rw [show k = i by omega]; simp only; omega
  · obtain ⟨_, v1, v2, v3⟩ := hv
    refine ⟨⟨fun h => ?_, fun ⟨q, hq⟩ => ?_⟩, fun h => v2 h, fun h => ?_, fun h q h1 h2 => ?_⟩
    · obtain ⟨⟨k, g1, _⟩, _⟩ := v3 h
      exact ⟨_, (hc _).1 (getD_mem (d := (default : Int)) g1)⟩
    · obtain ⟨k, hk, _⟩ := mem_getD (d := default) ((hc q).2 hq)
      exact v1.2 (by omega)
    · obtain ⟨⟨k, g1, g2⟩, _⟩ := v3 h
      have := (hc _).1 (getD_mem (d := default) g1)
      exact ⟨_, this.1, this.2, g2⟩
    · obtain ⟨k, hk, e⟩ := mem_getD (d := default) ((hc q).2 ⟨h1, h2⟩)
      have := (v3 h).2 k hk
      rw [e] at this; exact this
theorem lawSubset_iff (l m : List Int) : lawSubset l m = true ↔ ∀ q ∈ l, q ∈ m := by
  unfold lawSubset
  rw [loopN_all]
  simp only [and_true, not_f_iff, lawHas_iff]
  constructor
  · intro h q hq
    obtain ⟨k, hk, e⟩ := mem_getD (d := default) hq
    rw [← e]; exact h k hk
  · intro h k hk; exact h _ (getD_mem hk)
theorem and_loop {α : Type} (p : Nat → Bool) (n : Nat) {Q : Bool → Prop} {k : Bool → α} {K : α → Prop} (hk : ∀ b : Bool, (b = true ↔ ∀ j, j < n → p j = true) → K (k b)) : K (loopN (fun i (v : Bool) next => next (v && p i)) k n 0 true) := by
  refine loopN_to (fun i (v : Bool) => v = true ↔ ∀ j, j < i → p j = true) K (by simp) (fun i v next hi hv hn => hn _ ?_) (fun v hv => hk v hv)
  rw [Bool.and_eq_true, hv]
  constructor
  · rintro ⟨h1, h2⟩ j hj
    rcases Nat.lt_or_ge j i with c | c
    · exact h1 j c
    · rw [show j = i by omega]; exact h2
  · exact fun h => ⟨fun j hj => h j (by omega), h i (by omega)⟩
theorem implNearest_iff (x : Family) (a b q : Int) : q ∈ implNearest x a b ↔ q ∈ implCommon x a b ∧ ∀ r ∈ implCommon x a b, isAncestor x q r = false := by
  unfold implNearest
  generalize implCommon x a b = l
  have hrep : ∀ i, i < l.length → ((∀ j, j < l.length → (!isAncestor x (l.getD i default) (l.getD j default)) = true) ↔ ∀ r ∈ l, isAncestor x (l.getD i default) r = false) := fun i hi => by
    simp only [not_t_iff]
    constructor
    · intro h r hr
      obtain ⟨k, hk, e⟩ := mem_getD (d := default) hr
      rw [← e]; exact h k hk
    · intro h j hj; exact h _ (getD_mem hj)
  have hall : q ∈ l ↔ ∃ k, k < l.length ∧ q = l.getD k default := ⟨fun h => by obtain ⟨k, hk, e⟩ := mem_getD (d := default) h; exact ⟨k, hk, e.symm⟩, fun ⟨k, hk, e⟩ => by rw [e]; exact getD_mem hk⟩
  refine loopN_to (fun i (v : List Int) => i ≤ l.length ∧ (q ∈ v ↔ ∃ k, k < i ∧ q = l.getD k default ∧ ∀ r ∈ l, isAncestor x q r = false)) (fun (v : List Int) => q ∈ v ↔ q ∈ l ∧ ∀ r ∈ l, isAncestor x q r = false) ⟨Nat.zero_le _, by simp⟩ (fun i v next hi hv hn => ?_) (fun v hv => ?_)
  · refine and_loop (Q := fun _ => True) (fun j => !isAncestor x (l.getD i default) (l.getD j default)) l.length (K := fun (v : List Int) => q ∈ v ↔ q ∈ l ∧ ∀ r ∈ l, isAncestor x q r = false) (fun bb hbb => ?_)
    rw [hrep i hi] at hbb
    refine cond_both (p := fun (v : List Int) => q ∈ v ↔ q ∈ l ∧ ∀ r ∈ l, isAncestor x q r = false) (fun c => hn _ ⟨hi, ?_⟩) (fun c => hn _ ⟨hi, ?_⟩)
    · simp only [List.mem_append, List.mem_singleton, hv.2]
      constructor
      · rintro (⟨k, h1, h2, h3⟩ | h)
        · exact ⟨k, by omega, h2, h3⟩
        · exact ⟨i, by omega, h, by rw [h]; exact hbb.1 c⟩
      · rintro ⟨k, h1, h2, h3⟩
        by_cases e : k = i
        · subst e; exact .inr h2
        · exact .inl ⟨k, by omega, h2, h3⟩
    · rw [hv.2]
      constructor
      · rintro ⟨k, h1, h2, h3⟩; exact ⟨k, by omega, h2, h3⟩
      · rintro ⟨k, h1, h2, h3⟩
        by_cases e : k = i
        · subst e; rw [h2] at h3; rw [hbb.2 h3] at c; cases c
        · exact ⟨k, by omega, h2, h3⟩
  · rw [hv.2, hall]
    constructor
    · rintro ⟨k, h1, h2, h3⟩; exact ⟨⟨k, h1, h2⟩, h3⟩
    · rintro ⟨⟨k, h1, h2⟩, h3⟩; exact ⟨k, h1, h2, h3⟩
theorem Above.trans {x : Family} {p q r : Int} (h : Above x p q) (h2 : Above x q r) : Above x p r := by
  obtain ⟨n, g⟩ := h2
  induction g with
  | zero => exact h
  | step _ hq ih => obtain ⟨m, hm⟩ := ih; exact ⟨m + 1, .step hm hq⟩
theorem nearest_under {x : Family} (hf : specIsFamily x = true) {a b : Int} (ha : 0 ≤ a ∧ a < x.people.length) (hb : 0 ≤ b ∧ b < x.people.length) {l : List Int} (hc : Com x a b l) : ∀ (m : Nat) (q : Int), q ∈ l → x.people.length - q < m → ∃ r ∈ l, (∀ s ∈ l, isAncestor x r s = false) ∧ Above x r q
  | 0, q, hq, hm => by have := ((hc q).1 hq).1.rng hf ha; omega
  | m + 1, q, hq, hm => by
    by_cases c : ∀ s ∈ l, isAncestor x q s = false
    · exact ⟨q, hq, c, Above.self x q⟩
    · have : ∃ s ∈ l, isAncestor x q s = true := by
        refine Classical.byContradiction fun hh => c fun s hs => ?_
        cases e : isAncestor x q s with
        | false => rfl
        | true => exact absurd ⟨s, hs, e⟩ hh
      obtain ⟨s, hs, e⟩ := this
      have hsr := ((hc s).1 hs).1.rng hf ha
      have hqr := ((hc q).1 hq).1.rng hf ha
      rw [isAncestor_eq hf ⟨hsr.1, hsr.2.1⟩] at e
      have e := of_decide_eq_true e
      have hab := (above_iff hf ⟨hsr.1, hsr.2.1⟩ ⟨hqr.1, hqr.2.1⟩).1 (by omega)
      have hlt : q < s := by
        have h1 := hab.rng hf ⟨hsr.1, hsr.2.1⟩
        rcases Int.lt_or_eq_of_le h1.2.2 with h | h
        · exact h
        · have := St.self hf ⟨hsr.1, hsr.2.1⟩
          unfold St at this
          rw [h, this] at e; omega
      obtain ⟨r, g1, g2, g3⟩ := nearest_under hf ha hb hc m s hs (by omega)
      exact ⟨r, g1, g2, g3.trans hab⟩
theorem implParents_len (x : Family) (p : Int) : (implParents x p).length ≤ 2 := by
  unfold implParents
  refine cond_both (p := fun (r : List Int) => r.length ≤ 2) (fun _ => by simp) (fun _ => ?_)
  rw [parentsOf_eq]; exact (l1Parents_rng x p).1
theorem implCanon_bd {x : Family} {a b : Int} (hf : specIsFamily x = true) (ha : 0 ≤ a ∧ a < x.people.length) (hb : 0 ≤ b ∧ b < x.people.length) : 0 ≤ (implCanon x a b).1 ∧ (implCanon x a b).1 ≤ 40 := by
  have hc := implCanon_can hf ha hb
  have hn := fam_n hf
  cases c : (implCanon x a b).2 with
  | false => rw [hc.no c]; omega
  | true =>
    obtain ⟨q, h1, h2, h3⟩ := hc.is c
    have hq := h1.rng hf ha
    have h4 := (above_iff hf ha ⟨hq.1, hq.2.1⟩).2 h1
    have h5 := (above_iff hf hb ⟨hq.1, hq.2.1⟩).2 h2
    have h6 := (St.up hf ha ⟨hq.1, hq.2.1⟩ h4).1.rng (isFamily_par x hf) ha
    have h7 := (St.up hf hb ⟨hq.1, hq.2.1⟩ h5).1.rng (isFamily_par x hf) hb
    unfold St at *
    omega
end Go.Proofs.Ytanpfncfphpddab
