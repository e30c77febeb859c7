import Derived.Test.YtkkijpibajigfabDoorVE1
set_option maxHeartbeats 4000000
set_option linter.unusedSimpArgs false
set_option linter.unusedVariables false
namespace Go.Proofs.YtkkijpibajigfabDoor
open Go Go.Lite Go.Proofs
/-! A number's text by both ways. -/
theorem number_len {y : Int} (h : 0 ≤ y ∧ y ≤ 9999) : (l1Number y).length ≤ 4 := by rw [number_eq h.1]; exact itoa_len4 h.2
/-! What a happening leaves in a family stays. -/
/-- Persons and unions after a happening: those that were there are there. -/
structure Grow (p p' : List Person) (u u' : List Union) : Prop where
  pn : p.length ≤ p'.length
  un : u.length ≤ u'.length
  pk : ∀ j, j < p.length → (p'.getD j default).name = (p.getD j default).name ∧ (p'.getD j default).sex = (p.getD j default).sex ∧ (p'.getD j default).father = (p.getD j default).father ∧ (p'.getD j default).mother = (p.getD j default).mother ∧ (p'.getD j default).born = (p.getD j default).born ∧ ((p.getD j default).died = -1 ∨ (p'.getD j default).died = (p.getD j default).died)
  uk : ∀ j, j < u.length → (u'.getD j default).man = (u.getD j default).man ∧ (u'.getD j default).woman = (u.getD j default).woman ∧ (u'.getD j default).from0 = (u.getD j default).from0 ∧ ((u.getD j default).to = -1 ∨ (u'.getD j default).to = (u.getD j default).to)
theorem Grow.rf (p : List Person) (u : List Union) : Grow p p u u := ⟨Nat.le_refl _, Nat.le_refl _, fun _ _ => ⟨rfl, rfl, rfl, rfl, rfl, .inr rfl⟩, fun _ _ => ⟨rfl, rfl, rfl, .inr rfl⟩⟩
/-- What an event has left. -/
inductive Kept (p : List Person) (u : List Union) (e : Event) : Prop where
  | birth (h : e.kind = 1) (j : Nat) (hj : j < p.length) (h1 : (p.getD j default).name = e.name) (h2 : (p.getD j default).sex = e.sex) (h3 : (p.getD j default).father = e.a) (h4 : (p.getD j default).mother = e.b) (h5 : (p.getD j default).born = e.year)
  | union (h : e.kind = 2) (hz : e.name = [] ∧ e.sex = 0) (j : Nat) (hj : j < u.length) (h1 : (u.getD j default).man = e.a) (h2 : (u.getD j default).woman = e.b) (h3 : (u.getD j default).from0 = e.year)
  | parting (h : e.kind = 3) (hz : e.name = [] ∧ e.sex = 0) (j : Nat) (hj : j < u.length) (h1 : (u.getD j default).man = e.a) (h2 : (u.getD j default).woman = e.b) (h3 : (u.getD j default).to = e.year)
  | death (h : e.kind = 4) (hz : e.name = [] ∧ e.sex = 0 ∧ e.b = 0) (ha : 0 ≤ e.a ∧ e.a < p.length) (h1 : (p.getD e.a.toNat default).died = e.year)
theorem Kept.grow {p p' : List Person} {u u' : List Union} {e : Event} (h : Kept p u e) (hy : 0 ≤ e.year) (g : Grow p p' u u') : Kept p' u' e := by
  cases h with
  | birth h j hj h1 h2 h3 h4 h5 =>
    obtain ⟨g1, g2, g3, g4, g5, _⟩ := g.pk j hj
    exact .birth h j (Nat.lt_of_lt_of_le hj g.pn) (g1.trans h1) (g2.trans h2) (g3.trans h3) (g4.trans h4) (g5.trans h5)
  | union h hz j hj h1 h2 h3 =>
    obtain ⟨g1, g2, g3, _⟩ := g.uk j hj
    exact .union h hz j (Nat.lt_of_lt_of_le hj g.un) (g1.trans h1) (g2.trans h2) (g3.trans h3)
  | parting h hz j hj h1 h2 h3 =>
    obtain ⟨g1, g2, _, g4⟩ := g.uk j hj
    exact .parting h hz j (Nat.lt_of_lt_of_le hj g.un) (g1.trans h1) (g2.trans h2) (by rcases g4 with g4 | g4 <;> omega)
  | death h hz ha h1 =>
    have hl : e.a.toNat < p.length := by omega
    obtain ⟨_, _, _, _, _, g6⟩ := g.pk _ hl
    exact .death h hz ⟨ha.1, by have := g.pn; omega⟩ (by rcases g6 with g6 | g6 <;> omega)
theorem l11Union_rng2 (x : Family) (a b : Int) (h : ¬ l11Union x a b < 0) : (l11Union x a b).toNat < x.unions.length ∧ (x.unions.getD (l11Union x a b).toNat default).man = a ∧ (x.unions.getD (l11Union x a b).toNat default).woman = b := by
  revert h
  unfold l11Union
  refine loopN_to (fun _ _ => True) (fun (r : Int) => ¬ r < 0 → r.toNat < x.unions.length ∧ (x.unions.getD r.toNat default).man = a ∧ (x.unions.getD r.toNat default).woman = b) trivial (fun i v next hi _ hn => ?_) (fun v _ h => absurd (by omega) h)
  refine cond_both (p := fun (r : Int) => ¬ r < 0 → r.toNat < x.unions.length ∧ (x.unions.getD r.toNat default).man = a ∧ (x.unions.getD r.toNat default).woman = b) (fun c _ => ?_) (fun _ => hn _ trivial)
  simp only [Bool.and_eq_true, decide_eq_true_eq] at c
  rw [Int.toNat_natCast]
  exact ⟨hi, c⟩
/-- A happening that goes through. -/
theorem do_kept (x : Family) (e : Event) (h : (l11Do x e).2 = true) : Grow x.people (l11Do x e).1.people x.unions (l11Do x e).1.unions ∧ Kept (l11Do x e).1.people (l11Do x e).1.unions e := by
  revert h
  unfold l11Do
  have Q : ∀ {c : Bool} {a b : Family × Bool}, (c = true → a.2 = true → Grow x.people a.1.people x.unions a.1.unions ∧ Kept a.1.people a.1.unions e) → (c = false → b.2 = true → Grow x.people b.1.people x.unions b.1.unions ∧ Kept b.1.people b.1.unions e) → (bif c then a else b).2 = true → Grow x.people (bif c then a else b).1.people x.unions (bif c then a else b).1.unions ∧ Kept (bif c then a else b).1.people (bif c then a else b).1.unions e := fun h1 h2 => cond_both (p := fun (r : Family × Bool) => r.2 = true → Grow x.people r.1.people x.unions r.1.unions ∧ Kept r.1.people r.1.unions e) h1 h2
  have ne : ∀ {d : Bool}, d = false → ((!d) && (((!(e.name == ([] : List UInt8))) || (!decide (e.sex = 0))) || (!(l1In e.a 0 (((x.people.length : Nat) : Int) - 1))))) = false → (e.name = [] ∧ e.sex = 0) ∧ 0 ≤ e.a ∧ e.a < x.people.length := fun {d} hd hc => by
    subst hd
    simp only [Bool.not_false, Bool.true_and, or_f_iff, not_f_iff, l1In, Bool.and_eq_true, decide_eq_true_eq, beq_iff_eq] at hc
    exact ⟨hc.1, by omega⟩
  refine Q (fun _ h => nomatch h) (fun c1 => Q (fun c2 _ => ?_) (fun c2 => Q (fun c3 h => ?_) (fun c3 => Q (fun c4 => Q (fun _ h => nomatch h) (fun c5 _ => ?_)) (fun c4 => Q (fun c5 => Q (fun _ h => nomatch h) (fun c6 _ => ?_)) (fun _ h => nomatch h)))))
  · simp only [decide_eq_true_eq] at c2
    refine ⟨⟨by simp, Nat.le_refl _, fun j hj => ?_, fun j hj => ⟨rfl, rfl, rfl, .inr rfl⟩⟩, .birth c2 x.people.length (by simp) ?_ ?_ ?_ ?_ ?_⟩
    · simp only [snoc_lt' hj, and_self, or_true]
    all_goals simp only [snoc_last rfl]
  · obtain ⟨hz, ha⟩ := ne c2 c1
    simp only [decide_eq_true_eq] at c3
    refine ⟨⟨Nat.le_refl _, by simp, fun j hj => ⟨rfl, rfl, rfl, rfl, rfl, .inr rfl⟩, fun j hj => ?_⟩, .union c3 hz x.unions.length (by simp) ?_ ?_ ?_⟩
    · simp only [snoc_lt' hj, and_self, or_true]
    all_goals simp only [snoc_last rfl]
  · obtain ⟨hz, ha⟩ := ne c2 c1
    simp only [decide_eq_true_eq] at c4
    simp only [or_f_iff, decide_eq_false_iff_not, not_f_iff, decide_eq_true_eq] at c5
    obtain ⟨h1, h2, h3⟩ := l11Union_rng2 x e.a e.b c5.1
    refine ⟨⟨Nat.le_refl _, by simp, fun j hj => ⟨rfl, rfl, rfl, rfl, rfl, .inr rfl⟩, fun j hj => ?_⟩, .parting c4 hz (l11Union x e.a e.b).toNat (by simpa using h1) ?_ ?_ ?_⟩
    · simp only [getD_set]
      split
      · rename_i hh; obtain ⟨rfl, _⟩ := hh; exact ⟨rfl, rfl, rfl, .inl c5.2⟩
      · exact ⟨rfl, rfl, rfl, .inr rfl⟩
    · simp only [getD_set, h1, and_self, if_true]; exact h2
    · simp only [getD_set, h1, and_self, if_true]; exact h3
    · simp only [getD_set, h1, and_self, if_true]
  · obtain ⟨hz, ha⟩ := ne c2 c1
    simp only [decide_eq_true_eq] at c5
    simp only [or_f_iff, not_f_iff, decide_eq_true_eq] at c6
    have hl : e.a.toNat < x.people.length := by omega
    refine ⟨⟨by simp, Nat.le_refl _, fun j hj => ?_, fun j hj => ⟨rfl, rfl, rfl, .inr rfl⟩⟩, .death c5 ⟨hz.1, hz.2, c6.1⟩ (by simp only [List.length_set]; exact ha) ?_⟩
    · simp only [getD_set]
      split
      · rename_i hh; obtain ⟨rfl, _⟩ := hh; exact ⟨rfl, rfl, rfl, rfl, rfl, .inl c6.2⟩
      · exact ⟨rfl, rfl, rfl, rfl, rfl, .inr rfl⟩
    · simp only [getD_set, hl, and_self, if_true]
/-- Events that make a family: each stands in it. -/
theorem build_kept (x : List Event) (hb : (specBuild x).2 = true) : specIsFamily (specBuild x).1 = true ∧ ∀ j, j < x.length → 0 ≤ (x.getD j default).year ∧ Kept (specBuild x).1.people (specBuild x).1.unions (x.getD j default) := by
  revert hb
  unfold specBuild
  refine loopN_to (fun i (v : List Person × List Union) => (i = 0 → v = ([], [])) ∧ (0 < i → v.1 ≠ [] ∧ ((v.1.getD 0 default).born < 0 ∨ ∀ j, j < i → (0 ≤ (x.getD j default).year ∧ (x.getD j default).year ≤ (x.getD (i - 1) default).year) ∧ Kept v.1 v.2 (x.getD j default)))) (fun (r : Family × Bool) => r.2 = true → specIsFamily r.1 = true ∧ ∀ j, j < x.length → 0 ≤ (x.getD j default).year ∧ Kept r.1.people r.1.unions (x.getD j default)) ⟨fun _ => rfl, fun h => absurd h (by omega)⟩ (fun i v next hi hv hnx => ?_) (fun v hv => ?_)
  · obtain ⟨v1, v2⟩ := v
    refine cond_both (p := fun (r : Family × Bool) => r.2 = true → specIsFamily r.1 = true ∧ ∀ j, j < x.length → 0 ≤ (x.getD j default).year ∧ Kept r.1.people r.1.unions (x.getD j default)) (fun _ h => nomatch h) (fun c1 => cond_both (p := fun (r : Family × Bool) => r.2 = true → specIsFamily r.1 = true ∧ ∀ j, j < x.length → 0 ≤ (x.getD j default).year ∧ Kept r.1.people r.1.unions (x.getD j default)) (fun _ h => nomatch h) (fun c2 => hnx _ ⟨fun h => absurd h (by omega), fun _ => ?_⟩))
    have c2 : (l11Do (Family.mk v1 v2) (x.getD i default)).2 = true := by simpa using c2
    obtain ⟨f1, f2, f3⟩ := do_first _ _ c2
    obtain ⟨k1, k2⟩ := do_kept _ _ c2
    refine ⟨f1, ?_⟩
    rw [show i + 1 - 1 = i by omega]
    by_cases h0 : i = 0
    · have e := hv.1 h0
      simp only [Prod.mk.injEq] at e
      by_cases hy : 0 ≤ (x.getD i default).year
      · exact .inr fun j hj => by
          have : j = i := by omega
          subst this
          exact ⟨⟨hy, Int.le_refl _⟩, k2⟩
      · exact .inl (by rw [f3 e.1]; omega)
    · obtain ⟨g1, g2⟩ := hv.2 (by omega)
      rcases g2 with g2 | g2
      · exact .inl (by rw [f2 g1]; exact g2)
      · have hm := g2 (i - 1) (by omega)
        have hy : (x.getD (i - 1) default).year ≤ (x.getD i default).year := by
          simp only [Bool.and_eq_false_imp, decide_eq_true_eq, decide_eq_false_iff_not] at c1
          have := c1 (by omega)
          rw [show ((i : Nat) : Int) - 1 = ((i - 1 : Nat) : Int) by omega, Int.toNat_natCast] at this
          omega
        refine .inr fun j hj => ?_
        by_cases hji : j = i
        · subst hji; exact ⟨⟨Int.le_trans hm.1.1 hy, Int.le_refl _⟩, k2⟩
        · have := g2 j (by omega)
          exact ⟨⟨this.1.1, Int.le_trans this.1.2 hy⟩, this.2.grow this.1.1 k1⟩
  · obtain ⟨v1, v2⟩ := v
    refine cond_both (p := fun (r : Family × Bool) => r.2 = true → specIsFamily r.1 = true ∧ ∀ j, j < x.length → 0 ≤ (x.getD j default).year ∧ Kept r.1.people r.1.unions (x.getD j default)) (fun _ h => nomatch h) (fun c _ => ?_)
    have hf : specIsFamily (Family.mk v1 v2) = true := by simpa using c
    refine ⟨hf, fun j hj => ?_⟩
    obtain ⟨g1, g2⟩ := hv.2 (by omega)
    have hp := fam_p hf (k := 0) (by simp only; cases v1 <;> simp_all)
    rcases g2 with g2 | g2
    · have := hp.born; simp only at this g2; omega
    · exact ⟨(g2 j hj).1.1, (g2 j hj).2⟩
theorem name_len {s : List UInt8} (h : specIsName s = true) : s.length ≤ 12 := by
  unfold specIsName at h
  rw [loopN_all] at h
  simp only [l1In, Bool.and_eq_true, decide_eq_true_eq] at h
  omega
/-- An event of a family that can be built. -/
structure Sane (f : Family) (e : Event) : Prop where
  year : 0 ≤ e.year ∧ e.year ≤ 9999
  a : -1 ≤ e.a ∧ e.a < f.people.length
  b : -1 ≤ e.b ∧ e.b < f.people.length
  kind : 1 ≤ e.kind ∧ e.kind ≤ 4
  sex : e.kind = 1 → 1 ≤ e.sex ∧ e.sex ≤ 2
  name : e.name.length ≤ 12
  names : ∀ i : Int, (f.people.getD i.toNat default).name.length ≤ 12
theorem build_sane {x : List Event} (hb : (specBuild x).2 = true) {i : Nat} (hi : i < x.length) : Sane (specBuild x).1 (x.getD i default) := by
  obtain ⟨hf, hk⟩ := build_kept x hb
  obtain ⟨hy, hk⟩ := hk i hi
  have nm : ∀ j, ((specBuild x).1.people.getD j default).name.length ≤ 12 := fun j => by
    by_cases c : j < (specBuild x).1.people.length
    · exact name_len (fam_p hf c).name
    · rw [List.getD_eq_getElem?_getD, List.getElem?_eq_none (by omega)]; exact Nat.zero_le _
  revert hk hf nm
  generalize (specBuild x).1 = f
  intro hf hk nm
  cases hk with
  | birth h j hj h1 h2 h3 h4 h5 =>
    have p := fam_p hf hj
    have a1 := p.sex; have a2 := p.born; have a3 := p.fa; have a4 := p.mo
    rw [h2] at a1; rw [h5] at a2; rw [h3] at a3; rw [h4] at a4
    exact ⟨a2, by omega, by omega, by omega, fun _ => a1, by rw [← h1]; exact nm j, fun i => nm _⟩
  | union h hz j hj h1 h2 h3 =>
    have p := fam_u hf hj
    have a1 := p.man; have a2 := p.woman; have a3 := p.from0
    rw [h1] at a1; rw [h2] at a2; rw [h3] at a3
    exact ⟨by omega, by omega, by omega, by omega, fun h' => by omega, by rw [hz.1]; exact Nat.zero_le _, fun i => nm _⟩
  | parting h hz j hj h1 h2 h3 =>
    have p := fam_u hf hj
    have a1 := p.man; have a2 := p.woman; have a3 := p.to
    rw [h1] at a1; rw [h2] at a2; rw [h3] at a3
    exact ⟨by omega, by omega, by omega, by omega, fun h' => by omega, by rw [hz.1]; exact Nat.zero_le _, fun i => nm _⟩
  | death h hz ha h1 =>
    have hl : (x.getD i default).a.toNat < f.people.length := by omega
    have p := fam_p hf hl
    have a3 := p.died
    rw [h1] at a3
    exact ⟨by omega, by omega, by omega, by omega, fun h' => by omega, by rw [hz.1]; exact Nat.zero_le _, fun i => nm _⟩
theorem nameOf_len {f : Family} {e : Event} (h : Sane f e) (i : Int) : (l1NameOf f i).length ≤ 12 := by
  unfold l1NameOf
  exact cond_both (p := fun (r : List UInt8) => r.length ≤ 12) (fun _ => by simp) (fun _ => h.names i)
theorem nameText_len {f : Family} {e : Event} (h : Sane f e) (i : Int) : (nameText f i).length ≤ 12 := nameOf_len h i
theorem sexWord_len (i : Int) : (sexWord i).length ≤ 5 := by unfold sexWord; exact cond_both (p := fun (r : List UInt8) => r.length ≤ 5) (fun _ => by simp) (fun _ => by simp)
theorem ev_sz {x : List Event} (hb : (!((specBuild x).2)) = false) {i : Nat} (hi : i < x.length) : Sane (specBuild x).1 (x.getD i default) ∧ (l1Number (x.getD i default).year).length ≤ 4 ∧ (itoa (x.getD i default).year).length ≤ 4 ∧
    (l1NameOf (specBuild x).1 (x.getD i default).a).length ≤ 12 ∧ (l1NameOf (specBuild x).1 (x.getD i default).b).length ≤ 12 ∧ (nameText (specBuild x).1 (x.getD i default).a).length ≤ 12 ∧ (nameText (specBuild x).1 (x.getD i default).b).length ≤ 12 ∧ (sexWord (x.getD i default).sex).length ≤ 5 := by
  have h := build_sane (by simpa using hb) hi
  exact ⟨h, number_len h.year, itoa_len4 h.year.2, nameOf_len h _, nameOf_len h _, nameText_len h _, nameText_len h _, sexWord_len _⟩
theorem ev_szI {x : List Event} (hb : (!((implBuild x).2)) = false) {i : Nat} (hi : i < x.length) : Sane (implBuild x).1 (x.getD i default) ∧ (itoa (x.getD i default).year).length ≤ 4 ∧
    (nameText (implBuild x).1 (x.getD i default).a).length ≤ 12 ∧ (nameText (implBuild x).1 (x.getD i default).b).length ≤ 12 ∧ (sexWord (x.getD i default).sex).length ≤ 5 := by
  rw [build_eq] at hb ⊢
  obtain ⟨h, _, h1, _, _, h2, h3, h4⟩ := ev_sz hb hi
  exact ⟨h, h1, h2, h3, h4⟩
end Go.Proofs.YtkkijpibajigfabDoor
