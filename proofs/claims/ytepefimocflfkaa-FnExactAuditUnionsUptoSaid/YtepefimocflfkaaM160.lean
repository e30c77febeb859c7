import Derived.Test.YtepefimocflfkaaV103
set_option maxHeartbeats 4000000
set_option linter.unusedSimpArgs false
set_option linter.unusedVariables false
namespace Go.Proofs.Ytepefimocflfkaa
open Go Go.Lite Go.Proofs
theorem impediments_len {x : Family} (hf : specIsFamily x = true) {p q : Int} (hp : 0 ≤ p ∧ p < x.people.length) (hq : 0 ≤ q ∧ q < x.people.length) (l : Law) (y : Int) : (impediments x l p q y).length ≤ 13 := by
  rw [imp_core hf hp hq]
  have := l3Listed_len (l9Bars x l p q y)
  rw [l9Bars_len] at this
  exact this
/-! ### A family with fewer unions -/
theorem take_snoc {α : Type} (l : List α) (d : α) {i : Nat} (hi : i < l.length) : l.take (i + 1) = l.take i ++ [l.getD i d] := by
  rw [List.take_add_one, List.getD_eq_getElem?_getD, List.getElem?_eq_getElem hi]; rfl
def UDiff (a b : Union) : Prop := a.man = b.man → ¬ a.woman = b.woman
theorem pw_getD {α : Type} [Inhabited α] {R : α → α → Prop} : ∀ {l : List α}, (∀ k : Nat, k < l.length → ∀ j, j < k → R (l.getD j default) (l.getD k default)) → l.Pairwise R
  | [], _ => .nil
  | a :: l, h => by
    refine List.pairwise_cons.2 ⟨fun b hb => ?_, pw_getD fun k hk j hj => ?_⟩
    · obtain ⟨k, hk, e⟩ := mem_getD (d := default) hb
      have := h (k + 1) (by rw [List.length_cons]; omega) 0 (by omega)
      rw [List.getD_cons_zero, List.getD_cons_succ, e] at this
      exact this
    · have := h (k + 1) (by rw [List.length_cons]; omega) (j + 1) (by omega)
      rwa [List.getD_cons_succ, List.getD_cons_succ] at this
theorem getD_pw {α : Type} [Inhabited α] {R : α → α → Prop} : ∀ {l : List α}, l.Pairwise R → ∀ k : Nat, k < l.length → ∀ j, j < k → R (l.getD j default) (l.getD k default)
  | [], _, k, hk, _, _ => absurd hk (Nat.not_lt_zero _)
  | a :: l, h, k, hk, j, hj => by
    obtain ⟨h1, h2⟩ := List.pairwise_cons.1 h
    obtain ⟨k, rfl⟩ : ∃ m, k = m + 1 := ⟨k - 1, by omega⟩
    rw [List.length_cons] at hk
    rw [List.getD_cons_succ]
    cases j with
    | zero => rw [List.getD_cons_zero]; exact h1 _ (getD_mem (by omega))
    | succ j => rw [List.getD_cons_succ]; exact getD_pw h2 k (by omega) j (by omega)
theorem fam_sub {P : List Person} {U V : List Union} (h : specIsFamily ⟨P, U⟩ = true) (hs : V.Sublist U) : specIsFamily ⟨P, V⟩ = true := by
  obtain ⟨h1, h2, h3, h4⟩ := (fam_iff _).1 h
  have hl := hs.length_le
  dsimp only at h1
  refine (fam_iff _).2 ⟨⟨h1.1, by dsimp only; omega⟩, fun k hk => ?_, h3, fun k hk => ?_⟩
  · have := h2 k hk
    exact ⟨this.name, this.sex, this.born, this.died, this.uniq, this.fa, this.mo⟩
  · have hm := hs.subset (getD_mem (d := (default : Union)) hk)
    obtain ⟨j, hj, e⟩ := mem_getD (d := default) hm
    have hu := h4 j hj
    have hp : U.Pairwise UDiff := pw_getD fun k hk j hj => (h4 k hk).uniq j hj
    have hd := getD_pw (hp.sublist hs) k hk
    have e2 : (Family.mk P U).unions.getD j default = (Family.mk P V).unions.getD k default := e
    obtain ⟨u1, u2, u3, u4, u5, u6, u7, u8, _⟩ := hu
    rw [e2] at u1 u2 u3 u4 u5 u6 u7 u8
    exact ⟨u1, u2, u3, u4, u5, u6, u7, u8, hd⟩
def AuI (x : Family) (i : Nat) (u : List Union) : Prop := u.Sublist (x.unions.take i)
theorem AuI.snoc {x : Family} {i : Nat} {u : List Union} (h : AuI x i u) (hi : i < x.unions.length) : AuI x (i + 1) (u ++ [x.unions.getD i default]) := by
  unfold AuI
  rw [take_snoc _ default hi]
  exact List.Sublist.append h (List.Sublist.refl _)
theorem AuI.skip {x : Family} {i : Nat} {u : List Union} (h : AuI x i u) (hi : i < x.unions.length) : AuI x (i + 1) u := by
  unfold AuI
  rw [take_snoc _ default hi]
  exact List.Sublist.trans h (List.sublist_append_left _ _)
theorem AuI.fam {x : Family} {i : Nat} {u : List Union} (h : AuI x i u) (hf : specIsFamily x = true) : specIsFamily ⟨x.people, u⟩ = true := fam_sub (U := x.unions) hf (List.Sublist.trans h (List.take_sublist _ _))
theorem au_pre {x : Family} {l : Law} (h : ((!(implIsFamily x)) || (!(implIsLaw l))) = false) : specIsFamily x = true ∧ specIsLaw l = true ∧ 0 ≤ l.age ∧ l.age ≤ 99 := by
  rw [or_f_iff, not_f_iff, not_f_iff, isFamily_eq, isLaw_eq] at h
  exact ⟨h.1, h.2, specIsLaw_age h.2⟩
end Go.Proofs.Ytepefimocflfkaa
