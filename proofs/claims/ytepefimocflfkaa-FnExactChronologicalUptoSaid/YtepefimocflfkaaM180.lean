import Derived.Test.YtepefimocflfkaaVS60
set_option maxHeartbeats 4000000
set_option linter.unusedSimpArgs false
set_option linter.unusedVariables false
namespace Go.Proofs.Ytepefimocflfkaa
open Go Go.Lite Go.Proofs
/-! ### What is known at the end of a year, in a family that stands in the order of the years -/
theorem ext_g {α : Type} [Inhabited α] {l m : List α} (h : l.length = m.length) (hk : ∀ k, k < l.length → l.getD k default = m.getD k default) : l = m := by
  apply List.ext_getElem h
  intro k h1 h2
  have := hk k h1
  rw [List.getD_eq_getElem?_getD, List.getD_eq_getElem?_getD, List.getElem?_eq_getElem h1, List.getElem?_eq_getElem h2] at this
  simpa using this
def clipP (y : Int) (p : Person) : Person := ⟨p.name, p.sex, p.father, p.mother, p.born, bif decide (y < p.died) then -1 else p.died⟩
def clipU (y : Int) (u : Union) : Union := ⟨u.man, u.woman, u.from0, bif decide (y < u.to) then -1 else u.to⟩
structure Early (x k : Family) (y : Int) : Prop where
  pl : k.people.length ≤ x.people.length
  pg : ∀ i : Nat, i < k.people.length → k.people.getD i default = clipP y (x.people.getD i default) ∧ (x.people.getD i default).born ≤ y
  pr : ∀ i : Nat, k.people.length ≤ i → i < x.people.length → y < (x.people.getD i default).born
  ul : k.unions.length ≤ x.unions.length
  ug : ∀ i : Nat, i < k.unions.length → k.unions.getD i default = clipU y (x.unions.getD i default) ∧ (x.unions.getD i default).from0 ≤ y
  ur : ∀ i : Nat, k.unions.length ≤ i → i < x.unions.length → y < (x.unions.getD i default).from0

/-! ### Depths -/
def dOf (x : Family) (l : List Int) (i : Nat) : Int :=
  bif (decide (0 ≤ ((x.people.getD i default).father))) then (bif (decide (0 ≤ ((x.people.getD i default).mother))) then Max.max ((l.getD (((x.people.getD i default).father).toNat) default) + 1) ((l.getD (((x.people.getD i default).mother).toNat) default) + 1) else (l.getD (((x.people.getD i default).father).toNat) default) + 1) else
    (bif (decide (0 ≤ ((x.people.getD i default).mother))) then Max.max 0 ((l.getD (((x.people.getD i default).mother).toNat) default) + 1) else 0)
theorem dOf_cg {x z : Family} {l m : List Int} {i j : Nat} (hf : (0 ≤ (x.people.getD i default).father ↔ 0 ≤ (z.people.getD j default).father)) (hm : (0 ≤ (x.people.getD i default).mother ↔ 0 ≤ (z.people.getD j default).mother))
    (h1 : 0 ≤ (x.people.getD i default).father → l.getD (x.people.getD i default).father.toNat default = m.getD (z.people.getD j default).father.toNat default)
    (h2 : 0 ≤ (x.people.getD i default).mother → l.getD (x.people.getD i default).mother.toNat default = m.getD (z.people.getD j default).mother.toNat default) : dOf x l i = dOf z m j := by
  unfold dOf
  rw [show decide (0 ≤ (z.people.getD j default).father) = decide (0 ≤ (x.people.getD i default).father) from decide_eq_decide.2 hf.symm, show decide (0 ≤ (z.people.getD j default).mother) = decide (0 ≤ (x.people.getD i default).mother) from decide_eq_decide.2 hm.symm]
  cases c1 : decide (0 ≤ (x.people.getD i default).father) <;> cases c2 : decide (0 ≤ (x.people.getD i default).mother) <;> simp only [cond_true, cond_false]
  · rw [h2 (of_decide_eq_true c2)]
  · rw [h1 (of_decide_eq_true c1)]
  · rw [h1 (of_decide_eq_true c1), h2 (of_decide_eq_true c2)]
def DepthOk (x : Family) (r : List Int) : Prop := r.length = x.people.length ∧ ∀ i : Nat, i < x.people.length → r.getD i default = dOf x r i
theorem depth_rec (x : Family) (hp : Par x) : (l1Depths x).length = x.people.length ∧ ∀ i : Nat, i < x.people.length → (l1Depths x).getD i default = dOf x (l1Depths x) i := by
  suffices key : DepthOk x (l1Depths x) from key
  unfold l1Depths
  refine loopN_to (fun i (v : List Int) => v.length = i ∧ ∀ j : Nat, j < i → v.getD j default = dOf x v j) (DepthOk x) ⟨rfl, fun j hj => absurd hj (Nat.not_lt_zero _)⟩ (fun i v next hi hv hn => ?_) (fun v hv => hv)
  obtain ⟨hl, hd⟩ := hv
  have key : ∀ d : Int, d = dOf x v i → (v ++ [d]).length = i + 1 ∧ ∀ j : Nat, j < i + 1 → (v ++ [d]).getD j default = dOf x (v ++ [d]) j := by
    intro d e
    refine ⟨by simp [hl], fun j hj => ?_⟩
    have hpj := hp j (by omega)
    have e2 : dOf x (v ++ [d]) j = dOf x v j := by
      refine dOf_cg Iff.rfl Iff.rfl (fun h => ?_) (fun h => ?_)
      · rw [getD_snoc, if_pos (by omega)]
      · rw [getD_snoc, if_pos (by omega)]
    rw [e2, getD_snoc]
    by_cases c : j < v.length
    · rw [if_pos c]; exact hd j (by omega)
    · have : j = i := by omega
      subst this
      rw [if_neg c, if_pos (by omega)]; exact e
  have e0 : dOf x v i = dOf x v i := rfl
  unfold dOf at e0
  cases c1 : decide (0 ≤ (x.people.getD i default).father) <;> cases c2 : decide (0 ≤ (x.people.getD i default).mother) <;> simp only [c1, c2, cond_true, cond_false] <;>
    (refine hn _ (key _ ?_); unfold dOf; simp only [c1, c2, cond_true, cond_false])

theorem Early.fam {x k : Family} {y : Int} (h : Early x k y) (hx : specIsFamily x = true) : specIsFamily k = true := by
  obtain ⟨⟨h1, h2⟩, h3, h4, h5⟩ := (fam_iff x).1 hx
  have hpl := h.pl
  have hul := h.ul
  have hin : ∀ q : Int, 0 ≤ q → q < x.people.length → (x.people.getD q.toNat default).born ≤ y → q < k.people.length := by
    intro q h0 hq hb
    rcases Int.lt_or_le q k.people.length with c | c
    · exact c
    · have := h.pr q.toNat (by omega) (by omega); omega
  have hc : ∀ (d b : Int), (bif decide (y < d) then (-1 : Int) else d) = -1 ∨ (bif decide (y < d) then (-1 : Int) else d) = d := by
    intro d b; cases decide (y < d)
    · exact .inr rfl
    · exact .inl rfl
  have hP : ∀ i : Nat, i < k.people.length → FamP k i := by
    intro i hi
    have p := h3 i (by omega)
    have fa := p.fa
    have mo := p.mo
    refine ⟨?_, ?_, ?_, ?_, fun j hj => ?_, ?_, ?_⟩
    · rw [(h.pg i hi).1]; exact p.name
    · rw [(h.pg i hi).1]; exact p.sex
    · rw [(h.pg i hi).1]; exact p.born
    · rw [(h.pg i hi).1]
      have hd := p.died
      dsimp only [clipP]
      rcases hc (x.people.getD i default).died 0 with e | e <;> rw [e] <;> omega
    · rw [(h.pg i hi).1, (h.pg j (by omega)).1]; exact p.uniq j hj
    · rw [(h.pg i hi).1]
      dsimp only [clipP]
      refine fa.imp id fun f => ?_
      rw [(h.pg _ (by omega)).1]
      dsimp only [clipP]
      have hd := f.2.2.2.2
      refine ⟨f.1, f.2.1, f.2.2.1, f.2.2.2.1, ?_⟩
      rcases hc (x.people.getD (x.people.getD i default).father.toNat default).died 0 with e | e <;> rw [e] <;> omega
    · rw [(h.pg i hi).1]
      dsimp only [clipP]
      refine mo.imp id fun f => ?_
      rw [(h.pg _ (by omega)).1]
      dsimp only [clipP]
      have hd := f.2.2.2.2
      refine ⟨f.1, f.2.1, f.2.2.1, f.2.2.2.1, ?_⟩
      rcases hc (x.people.getD (x.people.getD i default).mother.toNat default).died 0 with e | e <;> rw [e] <;> omega
  have hpk : Par k := fun i hi => by
    have p := hP i hi
    have fa := p.fa
    have mo := p.mo
    omega
  have hpx := isFamily_par x hx
  refine (fam_iff k).2 ⟨⟨by omega, by omega⟩, hP, ?_, fun i hi => ?_⟩
  · suffices hd : ∀ n i : Nat, i < n → i < k.people.length → (l1Depths k).getD i default = (l1Depths x).getD i default by
      intro i hi
      rw [hd (i + 1) i (by omega) hi]
      exact h4 i (by omega)
    intro n
    induction n with
    | zero => intro i hi; omega
    | succ n ih =>
      intro i hi hik
      rw [(depth_rec k hpk).2 i hik, (depth_rec x hpx).2 i (by omega)]
      have hpi := hpx i (by omega)
      have ef : (k.people.getD i default).father = (x.people.getD i default).father := by rw [(h.pg i hik).1]; rfl
      have em : (k.people.getD i default).mother = (x.people.getD i default).mother := by rw [(h.pg i hik).1]; rfl
      refine dOf_cg (by rw [ef]) (by rw [em]) (fun g => ?_) (fun g => ?_)
      · rw [ef] at g ⊢; exact ih _ (by omega) (by omega)
      · rw [em] at g ⊢; exact ih _ (by omega) (by omega)
  · have u := h5 i (by omega)
    obtain ⟨e, hy⟩ := h.ug i hi
    have hman := u.man; have hwoman := u.woman; have hfrom := u.from0; have hto := u.to; have hm := u.mdied; have hw := u.wdied
    have hmk := hin _ hman.1 hman.2 (by omega)
    have hwk := hin _ hwoman.1 hwoman.2 (by omega)
    have em := (h.pg (x.unions.getD i default).man.toNat (by omega)).1
    have ew := (h.pg (x.unions.getD i default).woman.toNat (by omega)).1
    have g1 : (k.unions.getD i default).man = (x.unions.getD i default).man := by rw [e]; rfl
    have g2 : (k.unions.getD i default).woman = (x.unions.getD i default).woman := by rw [e]; rfl
    have g3 : (k.unions.getD i default).from0 = (x.unions.getD i default).from0 := by rw [e]; rfl
    have g4 : (k.unions.getD i default).to = bif decide (y < (x.unions.getD i default).to) then -1 else (x.unions.getD i default).to := by rw [e]; rfl
    refine ⟨by rw [g1]; omega, by rw [g2]; omega, by rw [g1, em]; exact u.msex, by rw [g2, ew]; exact u.wsex, by rw [g1, g2, g3, em, ew]; exact hfrom, ?_, ?_, ?_, fun j hj => ?_⟩
    · rw [g4, g3]
      rcases hc (x.unions.getD i default).to 0 with e1 | e1 <;> rw [e1] <;> omega
    · rw [g1, em, g3, g4]
      dsimp only [clipP]
      generalize (x.people.getD (x.unions.getD i default).man.toNat default).died = d at hm ⊢
      by_cases c1 : y < d <;> by_cases c2 : y < (x.unions.getD i default).to <;> simp only [c1, c2, decide_true, decide_false, cond_true, cond_false, true_or, or_true] <;> omega
    · rw [g2, ew, g3, g4]
      dsimp only [clipP]
      generalize (x.people.getD (x.unions.getD i default).woman.toNat default).died = d at hw ⊢
      by_cases c1 : y < d <;> by_cases c2 : y < (x.unions.getD i default).to <;> simp only [c1, c2, decide_true, decide_false, cond_true, cond_false, true_or, or_true] <;> omega
    · rw [g1, g2, (h.ug j (by omega)).1]; exact u.uniq j hj

theorem Early.parents {x k : Family} {y : Int} (h : Early x k y) {p : Int} (hp : 0 ≤ p ∧ p < k.people.length) : l1Parents k p = l1Parents x p := by
  unfold l1Parents
  rw [(h.pg p.toNat (by omega)).1]
  rfl
theorem Early.up {x k : Family} {y : Int} (h : Early x k y) (hx : specIsFamily x = true) {p : Int} (hp : 0 ≤ p ∧ p < k.people.length) (m : Nat) (q : Int) : Up k p m q ↔ Up x p m q := by
  have hk := isFamily_par k (h.fam hx)
  have hpx := isFamily_par x hx
  have hpl := h.pl
  constructor
  · intro hu
    induction hu with
    | zero => exact .zero
    | step hu hq ih =>
      have := hu.rng hk hp
      rw [h.parents ⟨this.1, this.2.1⟩] at hq
      exact .step ih hq
  · intro hu
    induction hu with
    | zero => exact .zero
    | step hu hq ih =>
      have := hu.rng hpx ⟨hp.1, by omega⟩
      rw [← h.parents ⟨this.1, by omega⟩] at hq
      exact .step ih hq
end Go.Proofs.Ytepefimocflfkaa
