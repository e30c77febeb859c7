import Derived.Test.YtkkijpibajigfabDoorV92
set_option maxHeartbeats 4000000
set_option linter.unusedSimpArgs false
set_option linter.unusedVariables false
namespace Go.Proofs.YtkkijpibajigfabDoor
open Go Go.Lite Go.Proofs
theorem getD_of_lt {α : Type} {l : List α} {i : Nat} {d : α} (h : i < l.length) : l.getD i d = l[i] := by
  rw [List.getD_eq_getElem?_getD, List.getElem?_eq_getElem h]; rfl
theorem loopN_doom {α β : Type} {f g : Nat → α → (α → β) → β} {k l : α → β} (R : Nat → α → Prop) (D : α → Prop) (z : β) (N : Nat)
    (hd : ∀ i v next, i < N → D v → (∀ w, D w → next w = z) → f i v next = z) (hk : ∀ v, D v → k v = z)
    (hs : ∀ i v n1 n2, i < N → R i v → (∀ w, R (i + 1) w → n1 w = n2 w) → (∀ w, D w → n1 w = z) → f i v n1 = g i v n2)
    (he : ∀ v, R N v → k v = l v) : ∀ v, R 0 v → loopN f k N 0 v = loopN g l N 0 v := by
  have dm : ∀ n i v, i + n = N → D v → loopN f k n i v = z := by
    intro n
    induction n with
    | zero => intro i v _ h; exact hk v h
    | succ n ih => intro i v hi h; exact hd i v _ (by omega) h fun w hw => ih (i + 1) w (by omega) hw
  have : ∀ n i v, i + n = N → R i v → loopN f k n i v = loopN g l n i v := by
    intro n
    induction n with
    | zero => intro i v hi h; obtain rfl : i = N := by omega
              exact he v h
    | succ n ih => intro i v hi h; exact hs i v _ _ (by omega) h (fun w hw => ih (i + 1) w (by omega) hw) fun w hw => dm n (i + 1) w (by omega) hw
  exact fun v h => this N 0 v (by omega) h
theorem union_loop (x : Family) (a b : Int) {β : Type} (A : Nat → β) (B : β) :
    loopN (fun i (_ : Unit) next => bif ((decide (((x.unions.getD i default).man) = a)) && (decide (((x.unions.getD i default).woman) = b))) then A i else (next ())) (fun (_ : Unit) => B) x.unions.length 0 () = bif decide (l11Union x a b < 0) then B else A (l11Union x a b).toNat := by
  unfold l11Union
  refine loopN_rel0 (fun _ _ _ => True) (fun (r : β) (s : Int) => r = bif decide (s < 0) then B else A s.toNat) trivial (fun i v u n1 n2 hi hr hn => ?_) (fun v u hr => by simp)
  cases (decide (((x.unions.getD i default).man) = a)) && (decide (((x.unions.getD i default).woman) = b))
  · exact hn () () trivial
  · simp only [cond_true, decide_eq_false (show ¬ ((i : Nat) : Int) < 0 by omega), cond_false, Int.toNat_natCast]
theorem union_none (x : Family) (a b : Int) (hw : ∀ w ∈ x.unions, 0 ≤ w.woman ∧ w.woman < x.people.length) (hb : ¬ (0 ≤ b ∧ b < x.people.length)) : l11Union x a b < 0 := by
  unfold l11Union
  refine loopN_to (fun i (v : Unit) => True) (fun (r : Int) => r < 0) trivial (fun i v next hi hv hn => cond_both (p := fun (r : Int) => r < 0) (fun c => ?_) (fun _ => hn _ trivial)) (fun v hv => by omega)
  simp only [Bool.and_eq_true, decide_eq_true_eq] at c
  have := hw _ (getD_mem (d := default) hi)
  rw [c.2] at this
  exact absurd this hb
/-- One event, by the two programs: they agree, or the first of them has given up and the other is past saving. -/
theorem do_happen (x : Family) (e : Event) (hw : ∀ w ∈ x.unions, 0 ≤ w.woman ∧ w.woman < x.people.length) :
    ((l11Do x e).2 = true ∧ happen x e = (true, (l11Do x e).1.people, (l11Do x e).1.unions)) ∨ ((l11Do x e).2 = false ∧ ((happen x e).1 = false ∨ 40 < (happen x e).2.1.length ∨ 60 < (happen x e).2.2.length)) := by
  have hl : ∀ a : Int, l1In a 0 (((x.people.length : Nat) : Int) - 1) = happenBorn a x := fun a => by
    rw [Bool.eq_iff_iff]; simp only [l1In, happenBorn, Bool.and_eq_true, decide_eq_true_eq]; omega
  unfold happen
  simp only [union_loop]
  unfold l11Do
  simp only [hl]
  cases k1 : decide (e.kind = 1)
  · simp only [Bool.not_false, Bool.true_and, cond_false]
    cases hz : ((!(e.name == ([] : List UInt8))) || (!decide (e.sex = 0)))
    · simp only [Bool.false_or, cond_false]
      cases ha : happenBorn e.a x
      · simp only [Bool.not_false, cond_true, Bool.true_or]
        right; refine ⟨by first | rfl | trivial, .inl ?_⟩
        cases decide (e.kind = 2) <;> cases decide (e.kind = 3) <;> cases decide (e.kind = 4) <;> rfl
      · simp only [Bool.not_true, cond_false, Bool.false_or]
        cases k2 : decide (e.kind = 2)
        · cases k3 : decide (e.kind = 3)
          · cases k4 : decide (e.kind = 4)
            · right; exact ⟨by first | rfl | trivial, .inl rfl⟩
            · simp only [cond_true, cond_false]
              cases ((!decide (e.b = 0)) || (!decide (((x.people.getD e.a.toNat default).died) = (-1))))
              · left; first | exact ⟨rfl, rfl⟩ | exact ⟨rfl, trivial⟩
              · right; exact ⟨by first | rfl | trivial, .inl rfl⟩
          · simp only [cond_true, cond_false]
            cases hb : happenBorn e.b x
            · have : l11Union x e.a e.b < 0 := union_none x _ _ hw (by simpa [happenBorn] using hb)
              rw [decide_eq_true this]
              right; exact ⟨by first | rfl | trivial, .inl rfl⟩
            · simp only [Bool.not_true, cond_false]
              cases decide (l11Union x e.a e.b < 0)
              · cases (!decide (((x.unions.getD (l11Union x e.a e.b).toNat default).to) = (-1)))
                · left; first | exact ⟨rfl, rfl⟩ | exact ⟨rfl, trivial⟩
                · right; exact ⟨by first | rfl | trivial, .inl rfl⟩
              · right; exact ⟨by first | rfl | trivial, .inl rfl⟩
        · simp only [cond_true, cond_false]
          cases hb : happenBorn e.b x
          · right; exact ⟨by first | rfl | trivial, .inl rfl⟩
          · simp only [Bool.not_true, cond_false, Bool.true_and]
            by_cases h : ((((x.unions ++ [(Union.mk e.a e.b e.year (-1))]).length : Nat) : Int) ≤ 60)
            · left; first | exact ⟨decide_eq_true h, rfl⟩ | exact ⟨decide_eq_true h, trivial⟩
            · right; exact ⟨decide_eq_false h, .inr (.inr (by first | omega | (simp only [List.length_append, List.length_singleton] at h ⊢; omega)))⟩
    · right; exact ⟨by first | rfl | trivial, .inl rfl⟩
  · simp only [Bool.not_true, Bool.false_and, cond_false, cond_true]
    by_cases h : ((x.people.length : Nat) : Int) < 40
    · left; first | exact ⟨decide_eq_true h, rfl⟩ | exact ⟨decide_eq_true h, trivial⟩
    · right; exact ⟨decide_eq_false h, .inr (.inl (by simp; omega))⟩
/-- How far a history has come: each event adds one. -/
def phi (p : List Person) (u : List Union) : Nat := p.length + u.length + p.countP (fun q => !decide (q.died = -1)) + u.countP (fun q => !decide (q.to = -1))
theorem do_phi (x : Family) (e : Event) (hy : 0 ≤ e.year) (h : (l11Do x e).2 = true) : phi (l11Do x e).1.people (l11Do x e).1.unions = phi x.people x.unions + 1 := by
  revert h
  unfold l11Do
  have Q : ∀ {c : Bool} {a b : Family × Bool}, (c = true → a.2 = true → phi a.1.people a.1.unions = phi x.people x.unions + 1) → (c = false → b.2 = true → phi b.1.people b.1.unions = phi x.people x.unions + 1) → (bif c then a else b).2 = true → phi (bif c then a else b).1.people (bif c then a else b).1.unions = phi x.people x.unions + 1 := fun h1 h2 => cond_both (p := fun (r : Family × Bool) => r.2 = true → phi r.1.people r.1.unions = phi x.people x.unions + 1) h1 h2
  have ny : ¬ e.year = -1 := by omega
  refine Q (fun _ h => nomatch h) (fun c1 => Q (fun _ _ => ?_) (fun c2 => Q (fun _ _ => ?_) (fun c3 => Q (fun c4 => Q (fun _ h => nomatch h) (fun c5 _ => ?_)) (fun c4 => Q (fun c5 => Q (fun _ h => nomatch h) (fun c6 _ => ?_)) (fun _ h => nomatch h)))))
  · simp only [phi, List.length_append, List.length_singleton, List.countP_append, List.countP_singleton, decide_true, Bool.not_true]; simp; omega
  · simp only [phi, List.length_append, List.length_singleton, List.countP_append, List.countP_singleton, decide_true, Bool.not_true]; simp; omega
  · have h1 := l11Union_rng x e.a e.b
    simp only [or_f_iff, decide_eq_false_iff_not, not_f_iff, decide_eq_true_eq] at c5
    have hl : (l11Union x e.a e.b).toNat < x.unions.length := by omega
    have h2 := c5.2
    rw [getD_of_lt hl] at h2
    simp only [phi, List.length_set, List.countP_set hl, h2, decide_true, Bool.not_true, decide_eq_false ny, Bool.not_false, if_true]
    simp; omega
  · have hl : e.a.toNat < x.people.length := by
      simp only [Bool.and_eq_false_imp, or_f_iff, not_f_iff, not_t_iff, l1In, Bool.and_eq_true, decide_eq_true_eq, decide_eq_false_iff_not] at *
      omega
    simp only [or_f_iff, not_f_iff, decide_eq_true_eq] at c6
    have h2 := c6.2
    rw [getD_of_lt hl] at h2
    simp only [phi, List.length_set, List.countP_set hl, h2, decide_true, Bool.not_true, decide_eq_false ny, Bool.not_false, if_true]
    simp; omega
/-- The first person's birth stays; the first event of all is a birth. -/
theorem do_first (x : Family) (e : Event) (h : (l11Do x e).2 = true) : (l11Do x e).1.people ≠ [] ∧ (x.people ≠ [] → ((l11Do x e).1.people.getD 0 default).born = (x.people.getD 0 default).born) ∧ (x.people = [] → ((l11Do x e).1.people.getD 0 default).born = e.year) := by
  revert h
  unfold l11Do
  have Q : ∀ {c : Bool} {a b : Family × Bool}, (c = true → a.2 = true → (a.1.people ≠ [] ∧ (x.people ≠ [] → (a.1.people.getD 0 default).born = (x.people.getD 0 default).born) ∧ (x.people = [] → (a.1.people.getD 0 default).born = e.year))) → (c = false → b.2 = true → (b.1.people ≠ [] ∧ (x.people ≠ [] → (b.1.people.getD 0 default).born = (x.people.getD 0 default).born) ∧ (x.people = [] → (b.1.people.getD 0 default).born = e.year))) →
    (bif c then a else b).2 = true → ((bif c then a else b).1.people ≠ [] ∧ (x.people ≠ [] → ((bif c then a else b).1.people.getD 0 default).born = (x.people.getD 0 default).born) ∧ (x.people = [] → ((bif c then a else b).1.people.getD 0 default).born = e.year)) := fun h1 h2 => cond_both (p := fun (r : Family × Bool) => r.2 = true → (r.1.people ≠ [] ∧ (x.people ≠ [] → (r.1.people.getD 0 default).born = (x.people.getD 0 default).born) ∧ (x.people = [] → (r.1.people.getD 0 default).born = e.year))) h1 h2
  have ne : ∀ {c : Bool} {d : Bool}, d = false → ((!d) && (c || (!(l1In e.a 0 (((x.people.length : Nat) : Int) - 1))))) = false → x.people ≠ [] ∧ e.a.toNat < x.people.length := fun {c d} hd hc => by
    subst hd
    simp only [Bool.not_false, Bool.true_and, or_f_iff, not_f_iff, l1In, Bool.and_eq_true, decide_eq_true_eq] at hc
    exact ⟨fun h => by rw [h] at hc; simp at hc; omega, by omega⟩
  refine Q (fun _ h => nomatch h) (fun c1 => Q (fun _ _ => ?_) (fun c2 => ?_))
  · refine ⟨by simp, fun h => ?_, fun h => ?_⟩
    · rw [snoc_lt' (by cases hx : x.people <;> simp_all)]
    · rw [h]; rfl
  · obtain ⟨h0, h1⟩ := ne c2 c1
    have same : ∀ u b, (Family.mk x.people u, b).2 = true → ((Family.mk x.people u).people ≠ [] ∧ (x.people ≠ [] → ((Family.mk x.people u).people.getD 0 default).born = (x.people.getD 0 default).born) ∧ (x.people = [] → ((Family.mk x.people u).people.getD 0 default).born = e.year)) := fun u b _ => ⟨h0, fun _ => rfl, fun h => absurd h h0⟩
    refine Q (fun _ => same _ _) (fun c3 => Q (fun c4 => Q (fun _ h => nomatch h) (fun c5 => same _ _)) (fun c4 => Q (fun c5 => Q (fun _ h => nomatch h) (fun c6 _ => ?_)) (fun _ h => nomatch h)))
    refine ⟨fun h => h0 (List.eq_nil_of_length_eq_zero (by have := congrArg List.length h; simpa using this)), fun _ => ?_, fun h => absurd h h0⟩
    simp only [getD_set]
    by_cases e0 : 0 = e.a.toNat
    · rw [if_pos ⟨e0, by omega⟩, ← e0]
    · rw [if_neg (by omega)]
theorem phi_le (x : Family) (h : specIsFamily x = true) : phi x.people x.unions ≤ 200 := by
  have := fam_n h
  have h1 := List.countP_le_length (p := fun (q : Person) => !decide (q.died = -1)) (l := x.people)
  have h2 := List.countP_le_length (p := fun (q : Union) => !decide (q.to = -1)) (l := x.unions)
  unfold phi; omega
theorem over200 (x : List Event) (hn : 200 < x.length) : specBuild x = (Family.mk [] [], false) := by
  unfold specBuild
  refine loopN_to (fun i (v : List Person × List Union) => (i = 0 → v = ([], [])) ∧ (0 < i → v.1 ≠ [] ∧ ((v.1.getD 0 default).born < 0 ∨ (0 ≤ (x.getD (i - 1) default).year ∧ phi v.1 v.2 = i)))) (fun r => r = (Family.mk [] [], false)) ⟨fun _ => rfl, fun h => absurd h (by omega)⟩ (fun i v next hi hv hnx => ?_) (fun v hv => ?_)
  · obtain ⟨v1, v2⟩ := v
    refine cond_both (p := fun r => r = (Family.mk [] [], false)) (fun _ => rfl) (fun c1 => cond_both (p := fun r => r = (Family.mk [] [], false)) (fun _ => rfl) (fun c2 => hnx _ ⟨fun h => absurd h (by omega), fun _ => ?_⟩))
    have c2 : (l11Do (Family.mk v1 v2) (x.getD i default)).2 = true := by simpa using c2
    obtain ⟨f1, f2, f3⟩ := do_first _ _ c2
    refine ⟨f1, ?_⟩
    rw [show i + 1 - 1 = i by omega]
    by_cases h0 : i = 0
    · have e := hv.1 h0
      simp only [Prod.mk.injEq] at e
      by_cases hy : 0 ≤ (x.getD i default).year
      · exact .inr ⟨hy, by rw [do_phi _ _ hy c2, e.1, e.2, h0]; rfl⟩
      · exact .inl (by rw [f3 e.1]; omega)
    · obtain ⟨g1, g2⟩ := hv.2 (by omega)
      rcases g2 with g2 | ⟨g2, g3⟩
      · exact .inl (by rw [f2 g1]; exact g2)
      · have hy : 0 ≤ (x.getD i default).year := by
          simp only [Bool.and_eq_false_imp, decide_eq_true_eq, decide_eq_false_iff_not] at c1
          have := c1 (by omega)
          rw [show ((i : Nat) : Int) - 1 = ((i - 1 : Nat) : Int) by omega, Int.toNat_natCast] at this
          omega
        exact .inr ⟨hy, by rw [do_phi _ _ hy c2]; simp only at g3 ⊢; rw [g3]⟩
  · obtain ⟨v1, v2⟩ := v
    refine cond_both (p := fun r => r = (Family.mk [] [], false)) (fun _ => rfl) (fun c => ?_)
    have hf : specIsFamily (Family.mk v1 v2) = true := by simpa using c
    obtain ⟨g1, g2⟩ := hv.2 (by omega)
    have hp := fam_p hf (k := 0) (by simp only; cases v1 <;> simp_all)
    have h5 := phi_le _ hf
    rcases g2 with g2 | ⟨g2, g3⟩
    · have := hp.born; simp only at this g2; omega
    · simp only at h5 g3; omega
theorem build_eq (x : List Event) : implBuild x = specBuild x := by
  by_cases hn : 200 < x.length
  · rw [over200 x hn]; unfold implBuild; rw [decide_eq_true (by omega)]; rfl
  unfold implBuild specBuild
  rw [decide_eq_false (by omega)]
  simp only [cond_false]
  have bad : ∀ v : List Person × List Union, 40 < v.1.length ∨ 60 < v.2.length → specIsFamily (Family.mk v.1 v.2) = false := fun v h => by
    cases hf : specIsFamily (Family.mk v.1 v.2)
    · rfl
    · have := fam_n hf; simp only at this; omega
  refine loopN_doom (fun i v => ∀ w ∈ v.2, 0 ≤ w.woman ∧ w.woman < v.1.length) (fun v => 40 < v.1.length ∨ 60 < v.2.length) (Family.mk [] [], false) _ (fun i v next hi hd hn => ?_) (fun v hd => ?_) (fun i v n1 n2 hi hr hn hz => ?_) (fun v hr => ?_) _ (fun w hw => by simp at hw)
  · cases c : ((decide (0 < ((i : Nat) : Int))) && (decide (((x.getD i default).year) < ((x.getD ((((i : Nat) : Int) - 1).toNat) default).year))))
    · simp only [Bool.not_false, cond_true, Bool.false_or]
      refine cond_both (p := fun r => r = (Family.mk [] [], false)) (fun _ => rfl) (fun c2 => hn _ ?_)
      have h := happen_ev (x.getD i default).name.length (Family.mk v.1 v.2) (x.getD i default) (Nat.le_refl _)
      have h1 := h.pl; have h2 := h.ul
      simp only at h1 h2 ⊢; omega
    · rfl
  · rw [isFamily_eq, bad v hd]; rfl
  · cases c : ((decide (0 < ((i : Nat) : Int))) && (decide (((x.getD i default).year) < ((x.getD ((((i : Nat) : Int) - 1).toNat) default).year))))
    · simp only [Bool.not_false, cond_true, Bool.false_or, cond_false]
      rcases do_happen (Family.mk v.1 v.2) (x.getD i default) hr with ⟨h1, h2⟩ | ⟨h1, h2⟩
      · rw [h2, h1]
        simp only [Bool.not_true, cond_false]
        exact hn _ ((l11_ev (x.getD i default).name.length (Family.mk v.1 v.2) (x.getD i default) (Nat.le_refl _) h1).wf hr)
      · rw [h1]
        simp only [Bool.not_false, cond_true]
        refine cond_both (p := fun r => r = (Family.mk [] [], false)) (fun _ => rfl) (fun c2 => hz _ ?_)
        have c2 : (happen (Family.mk v.1 v.2) (x.getD i default)).1 = true := by simpa using c2
        rw [c2] at h2
        simpa using h2
    · rfl
  · rw [isFamily_eq]
end Go.Proofs.YtkkijpibajigfabDoor
