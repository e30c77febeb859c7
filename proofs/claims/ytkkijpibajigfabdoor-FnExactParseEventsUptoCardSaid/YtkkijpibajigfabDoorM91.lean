import Derived.Test.YtkkijpibajigfabDoorV91
set_option maxHeartbeats 4000000
set_option linter.unusedSimpArgs false
set_option linter.unusedVariables false
namespace Go.Proofs.YtkkijpibajigfabDoor
open Go Go.Lite Go.Proofs
theorem getD_name (l : List Person) (j N : Nat) (h : ∀ q ∈ l, q.name.length ≤ N) : (l.getD j default).name.length ≤ N := by
  by_cases hj : j < l.length
  · exact h _ (getD_mem hj)
  · rw [show l.getD j default = default by rw [List.getD_eq_getElem?_getD, List.getElem?_eq_none (by omega)]; rfl]; exact Nat.zero_le _
/-- What one event may change, whatever it answers. -/
structure Ev (N : Nat) (p r : List Person) (u s : List Union) : Prop where
  pl : p.length ≤ r.length ∧ r.length ≤ p.length + 1
  ul : u.length ≤ s.length ∧ s.length ≤ u.length + 1
  nm : (∀ q ∈ p, q.name.length ≤ N) → ∀ q ∈ r, q.name.length ≤ N
  wf : (∀ w ∈ u, 0 ≤ w.woman ∧ w.woman < p.length) → ∀ w ∈ s, 0 ≤ w.woman ∧ w.woman < r.length
theorem Ev.rf (N : Nat) (p : List Person) (u : List Union) : Ev N p p u u := ⟨by omega, by omega, id, id⟩
theorem Ev.born (N : Nat) (p : List Person) (u : List Union) (e : Event) (he : e.name.length ≤ N) : Ev N p (p ++ [Person.mk e.name e.sex e.a e.b e.year (-1)]) u u :=
  ⟨by simp, by omega, fun h q hq => by
    rcases List.mem_append.1 hq with h1 | h1
    · exact h q h1
    · rw [List.mem_singleton.1 h1]; exact he, fun h w hw => by have := h w hw; simp only [List.length_append, List.length_singleton]; omega⟩
theorem Ev.wedd (N : Nat) (p : List Person) (u : List Union) (w : Union) (hw : 0 ≤ w.woman ∧ w.woman < p.length) : Ev N p p u (u ++ [w]) :=
  ⟨by omega, by simp, id, fun h v hv => by
    rcases List.mem_append.1 hv with h1 | h1
    · exact h v h1
    · rw [List.mem_singleton.1 h1]; exact hw⟩
theorem Ev.part (N : Nat) (p : List Person) (u : List Union) (j : Nat) (w : Union) (hj : j < u.length) (hw : w.woman = (u.getD j default).woman) : Ev N p p u (u.set j w) :=
  ⟨by omega, by simp, id, fun h v hv => by
    rcases List.mem_or_eq_of_mem_set hv with h1 | h1
    · exact h v h1
    · rw [h1, hw]; exact h _ (getD_mem hj)⟩
theorem Ev.dead (N : Nat) (p : List Person) (u : List Union) (j : Nat) (w : Person) (hw : w.name = (p.getD j default).name) : Ev N p (p.set j w) u u :=
  ⟨by simp, by omega, fun h q hq => by
    rcases List.mem_or_eq_of_mem_set hq with h1 | h1
    · exact h q h1
    · rw [h1, hw]; exact getD_name p j N h, fun h v hv => by have := h v hv; simpa using this⟩
theorem l11_ev (N : Nat) (x : Family) (e : Event) (he : e.name.length ≤ N) (ht : (l11Do x e).2 = true) : Ev N x.people (l11Do x e).1.people x.unions (l11Do x e).1.unions := by
  revert ht
  unfold l11Do
  refine cond_both (p := fun (r : Family × Bool) => r.2 = true → Ev N x.people r.1.people x.unions r.1.unions) (fun _ _ => Ev.rf ..) (fun c1 => ?_)
  refine cond_both (p := fun (r : Family × Bool) => r.2 = true → Ev N x.people r.1.people x.unions r.1.unions) (fun _ _ => Ev.born _ _ _ e he) (fun c2 => ?_)
  refine cond_both (p := fun (r : Family × Bool) => r.2 = true → Ev N x.people r.1.people x.unions r.1.unions) (fun _ h => Ev.wedd _ _ _ _ ?_) (fun c3 => ?_)
  · simp only [l1In, Bool.and_eq_true, decide_eq_true_eq] at h; simp only; omega
  refine cond_both (p := fun (r : Family × Bool) => r.2 = true → Ev N x.people r.1.people x.unions r.1.unions) (fun c4 => ?_) (fun c4 => ?_)
  · refine cond_both (p := fun (r : Family × Bool) => r.2 = true → Ev N x.people r.1.people x.unions r.1.unions) (fun c5 _ => Ev.rf ..) (fun c5 _ => Ev.part _ _ _ _ _ ?_ rfl)
    have := l11Union_rng x e.a e.b
    simp only [or_f_iff, decide_eq_false_iff_not] at c5
    omega
  refine cond_both (p := fun (r : Family × Bool) => r.2 = true → Ev N x.people r.1.people x.unions r.1.unions) (fun c5 => ?_) (fun c5 _ => Ev.rf ..)
  exact cond_both (p := fun (r : Family × Bool) => r.2 = true → Ev N x.people r.1.people x.unions r.1.unions) (fun c6 _ => Ev.rf ..) (fun c6 _ => Ev.dead _ _ _ _ _ rfl)
theorem happen_ev (N : Nat) (x : Family) (e : Event) (he : e.name.length ≤ N) : Ev N x.people (happen x e).2.1 x.unions (happen x e).2.2 := by
  have P : ∀ {c : Bool} {a b : Bool × List Person × List Union}, (c = true → Ev N x.people a.2.1 x.unions a.2.2) → (c = false → Ev N x.people b.2.1 x.unions b.2.2) → Ev N x.people (bif c then a else b).2.1 x.unions (bif c then a else b).2.2 := fun h1 h2 => cond_both (p := fun (r : Bool × List Person × List Union) => Ev N x.people r.2.1 x.unions r.2.2) h1 h2
  unfold happen
  refine P (fun _ => Ev.rf ..) (fun c1 => P (fun _ => Ev.born _ _ _ e he) (fun c2 => P (fun c3 => P (fun c4 => Ev.rf ..) (fun c4 => Ev.wedd _ _ _ _ ?_)) (fun c3 => P (fun c4 => P (fun _ => Ev.rf ..) fun c5 => ?_) (fun c4 => P (fun c5 => P (fun _ => Ev.rf ..) (fun c6 => Ev.dead _ _ _ _ _ rfl)) (fun c5 => Ev.rf ..)))))
  · simp only [happenBorn, or_f_iff, not_f_iff, Bool.and_eq_true, decide_eq_true_eq] at c4; exact c4.2
  · exact loopN_to (fun i (v : Unit) => True) (fun (r : Bool × List Person × List Union) => Ev N x.people r.2.1 x.unions r.2.2) trivial (fun i v next hi hv hn => P (fun _ => P (fun _ => Ev.rf ..) (fun _ => Ev.part _ _ _ _ _ hi rfl)) (fun _ => hn _ trivial)) (fun v hv => Ev.rf ..)
theorem l11_step {x0 : List Event} (hy : ∀ e ∈ x0, e.name.length ≤ 1048576) {i : Nat} (hi : i < x0.length) {p : List Person} {u : List Union} (hI : p.length ≤ i ∧ u.length ≤ i ∧ ∀ q ∈ p, q.name.length ≤ 1048576) (ht : (!((l11Do (Family.mk p u) (x0.getD i default)).2)) = false) :
    (l11Do (Family.mk p u) (x0.getD i default)).1.people.length ≤ i + 1 ∧ (l11Do (Family.mk p u) (x0.getD i default)).1.unions.length ≤ i + 1 ∧ ∀ q ∈ (l11Do (Family.mk p u) (x0.getD i default)).1.people, q.name.length ≤ 1048576 := by
  have h := l11_ev 1048576 (Family.mk p u) (x0.getD i default) (hy _ (getD_mem hi)) (by simpa using ht)
  have h1 := h.pl; have h2 := h.ul
  exact ⟨by simp only at h1 ⊢; omega, by simp only at h2 ⊢; omega, h.nm hI.2.2⟩
theorem happen_step {x0 : List Event} (hy : ∀ e ∈ x0, e.name.length ≤ 1048576) {i : Nat} (hi : i < x0.length) {p : List Person} {u : List Union} (hI : p.length ≤ i ∧ u.length ≤ i ∧ ∀ q ∈ p, q.name.length ≤ 1048576) :
    (happen (Family.mk p u) (x0.getD i default)).2.1.length ≤ i + 1 ∧ (happen (Family.mk p u) (x0.getD i default)).2.2.length ≤ i + 1 ∧ ∀ q ∈ (happen (Family.mk p u) (x0.getD i default)).2.1, q.name.length ≤ 1048576 := by
  have h := happen_ev 1048576 (Family.mk p u) (x0.getD i default) (hy _ (getD_mem hi))
  have h1 := h.pl; have h2 := h.ul
  exact ⟨by simp only at h1 ⊢; omega, by simp only at h2 ⊢; omega, h.nm hI.2.2⟩
end Go.Proofs.YtkkijpibajigfabDoor
