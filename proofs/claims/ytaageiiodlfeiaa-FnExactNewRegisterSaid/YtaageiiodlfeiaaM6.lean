import Derived.Test.YtaageiiodlfeiaaV6
set_option maxHeartbeats 4000000
set_option linter.unusedSimpArgs false
set_option linter.unusedVariables false
namespace Go.Proofs.Ytaageiiodlfeiaa
open Go Go.Lite Go.Proofs
theorem isName_eq (s : List UInt8) : implIsName s = specIsName s := by
  rw [Bool.eq_iff_iff]
  simp only [implIsName, specIsName, cond_f_iff, or_f_iff, loopN_all, l1In, Bool.and_eq_true, decide_eq_true_eq, decide_eq_false_iff_not, and_true]
  constructor
  · rintro ⟨⟨h1, h2⟩, h3⟩; exact ⟨h3, by omega, by omega⟩
  · rintro ⟨h3, h1, h2⟩; exact ⟨⟨by omega, by omega⟩, h3⟩
def neg (l : List Int) : Nat := l.countP fun x => decide (x < 0)
theorem neg_set : ∀ (l : List Int) (i : Nat) (x : Int), i < l.length → l.getD i default < 0 → 0 ≤ x → neg (l.set i x) + 1 = neg l
  | [], i, x, h, _, _ => absurd h (Nat.not_lt_zero _)
  | a :: l, 0, x, _, h, hx => by
    have h : a < 0 := h
    simp [neg, List.countP_cons, h, show ¬ x < 0 by omega]
  | a :: l, i + 1, x, hi, h, hx => by
    have := neg_set l i x (by simpa using hi) h hx
    simp only [neg, List.set_cons_succ, List.countP_cons] at this ⊢
    omega
/-- What holds of the steps found so far and of those that wait. -/
structure StepsInv (x : Family) (o t : List Int) : Prop where
  rg : Rg o x.people.length fun k v => -1 ≤ v ∧ v + k ≤ x.people.length
  wait : ∀ j, j < t.length → 0 ≤ t.getD j default ∧ t.getD j default < x.people.length
  cnt : t.length + neg o ≤ x.people.length
theorem neg_all {l : List Int} (h : ∀ k, k < l.length → l.getD k default = -1) : neg l = l.length := by
  unfold neg
  rw [List.countP_eq_length]
  intro a ha
  obtain ⟨k, hk, e⟩ := List.getElem_of_mem ha
  have := h k hk
  rw [List.getD_eq_getElem?_getD, List.getElem?_eq_getElem hk] at this
  simp only [Option.getD_some] at this
  rw [← e, this]; decide
theorem StepsInv.start {x : Family} {p : Int} (hp : 0 ≤ p ∧ p < x.people.length) {v : List Int} (hv : Rg v x.people.length fun k v => k < x.people.length → v = -1) : StepsInv x (v.set p.toNat 0) [p] where
  rg := Rg.set (hv.mono fun k y hk hy => by have := hy hk; omega) (fun h => by omega)
  wait := fun j hj => by
    simp at hj; subst hj; exact hp
  cnt := by
    have h1 := neg_all (l := v) (fun k hk => hv.get k (by rw [← hv.len]; exact hk) (by rw [← hv.len]; exact hk))
    have h2 := hv.get p.toNat (by omega) (by omega)
    have h3 := neg_set v p.toNat 0 (by rw [hv.len]; omega) (by omega) (by omega)
    have := hv.len
    simp only [List.length_singleton]
    omega
theorem StepsInv.push {x : Family} {o t : List Int} (h : StepsInv x o t) {a q : Int} (ha : 0 ≤ a ∧ a < x.people.length) (hq : 0 ≤ q ∧ q < a) (hn : o.getD q.toNat default < 0) :
    StepsInv x (o.set q.toNat (o.getD a.toNat default + 1)) (t ++ [q]) ∧ (t ++ [q]).length + neg (o.set q.toNat (o.getD a.toNat default + 1)) = t.length + neg o := by
  have h1 := h.rg.get a.toNat (by omega)
  have h3 := neg_set o q.toNat (o.getD a.toNat default + 1) (by rw [h.rg.len]; omega) hn (by omega)
  have h4 : (t ++ [q]).length = t.length + 1 := by simp
  refine ⟨⟨Rg.set h.rg fun _ => by omega, fun j hj => ?_, by have := h.cnt; omega⟩, by omega⟩
  rw [getD_snoc]
  split
  · exact h.wait j (by assumption)
  · rw [if_pos (by omega)]; omega
end Go.Proofs.Ytaageiiodlfeiaa
