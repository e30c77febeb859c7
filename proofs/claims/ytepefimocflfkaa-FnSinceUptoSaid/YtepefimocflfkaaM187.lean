import Derived.Test.YtepefimocflfkaaVS63
set_option maxHeartbeats 4000000
set_option linter.unusedSimpArgs false
set_option linter.unusedVariables false
namespace Go.Proofs.Ytepefimocflfkaa
open Go Go.Lite Go.Proofs
/-! ### The impediments of early persons -/
def bars0 (x0 : Family) (x1 : Law) (x2 : Int) (x3 : Int) (x4 : Int) : List Bool := ((((((((((((List.replicate 13 (default : Bool)).set 1 ((!decide (((x0.people.getD x2.toNat default).sex) = 1)) || (!decide (((x0.people.getD x3.toNat default).sex) = 2)))).set 2 ((l9Life (x0.people.getD x2.toNat default) x4) || (l9Life (x0.people.getD x3.toNat default) x4))).set 3 ((decide (x4 < (((x0.people.getD x2.toNat default).born) + x1.age))) || (decide (x4 < (((x0.people.getD x3.toNat default).born) + x1.age))))).set 4 (decide (x1.wives ≤ (((specMarried x0 x2 x4).length : Nat) : Int)))).set 5 (decide (x1.husbands ≤ (((specMarried x0 x3 x4).length : Nat) : Int)))).set 6 ((decide (0 ≤ ((l8Up x0 x2).getD x3.toNat default))) || (decide (0 ≤ ((l8Up x0 x3).getD x2.toNat default))))).set 7 ((!decide (x1.degree = 0)) && (l9Close x0 x2 x3 x1.degree))).set 8 (((!decide (x1.canon = 0)) && ((specCanon x0 x2 x3).2)) && (decide (((specCanon x0 x2 x3).1) ≤ x1.canon)))).set 9 (x1.patriline && (decide ((l7Founder x0 x2 1) = (l7Founder x0 x3 1))))).set 10 (x1.matriline && (decide ((l7Founder x0 x2 2) = (l7Founder x0 x3 2))))).set 11 ((!decide (x1.affinity = 0)) && ((l9Affine x0 x2 x3 x4 x1.affinity) || (l9Affine x0 x3 x2 x4 x1.affinity))))
theorem bars0_get (x : Family) (l : Law) (p q y : Int) : ∀ i : Nat, i ≠ 12 → (l9Bars x l p q y).getD i default = (bars0 x l p q y).getD i default := by
  unfold l9Bars
  refine loopN_to (fun _ (v : List Bool) => ∀ i : Nat, i ≠ 12 → v.getD i default = (bars0 x l p q y).getD i default) (fun (v : List Bool) => ∀ i : Nat, i ≠ 12 → v.getD i default = (bars0 x l p q y).getD i default) (fun i hi => rfl) (fun j v next hj hv hn => hn _ fun i hi => ?_) (fun v hv => hv)
  rw [getD_set, if_neg (fun h => hi h.1)]
  exact hv i hi
theorem Early.bars {x k : Family} {y : Int} (h : Early x k y) (hx : specIsFamily x = true) (l : Law) {p q : Int} (hp : 0 ≤ p ∧ p < k.people.length) (hq : 0 ≤ q ∧ q < k.people.length) : bars0 k l p q y = bars0 x l p q y := by
  unfold bars0
  rw [h.life hp hx, h.life hq hx, h.married hx hp, h.married hx hq, (h.ups hx hp).1 q.toNat (by omega), (h.ups hx hq).1 p.toNat (by omega), h.close hx hp hq, h.canon hx hp hq, h.founder hx hp, h.founder hx hp, h.founder hx hq, h.founder hx hq, h.affine hx hq, h.affine hx hp,
    (h.pg p.toNat (by omega)).1, (h.pg q.toNat (by omega)).1]
  rfl
theorem listed_val (l : List Bool) : l3Listed l = ((List.range l.length).filter fun i => l.getD i default).map fun i => ((i : Nat) : Int) := by
  unfold l3Listed; exact filt_val _ _ _
theorem listed_but {B C : List Bool} {m : Nat} (h : B.length = C.length) (hg : ∀ i : Nat, i ≠ m → B.getD i default = C.getD i default) : (l3Listed B).filter (fun z => !decide (z = ((m : Nat) : Int))) = (l3Listed C).filter (fun z => !decide (z = ((m : Nat) : Int))) := by
  rw [listed_val, listed_val, h, List.filter_map, List.filter_map, List.filter_filter, List.filter_filter]
  congr 1
  refine List.filter_congr fun i _ => ?_
  by_cases c : i = m
  · subst c
    simp [Function.comp]
  · rw [hg i c]
/-- Late and then there are the same impediments but the one of a union. -/
theorem Early.imps {x k : Family} {y : Int} (h : Early x k y) (hx : specIsFamily x = true) {l : Law} (hl : specIsLaw l = true) {p q : Int} (hp : 0 ≤ p ∧ p < k.people.length) (hq : 0 ≤ q ∧ q < k.people.length) :
    (implImp k l p q y).filter (fun z => !decide (z = 12)) = (implImp x l p q y).filter (fun z => !decide (z = 12)) := by
  have hpl := h.pl
  have e : ∀ f : Family, specIsFamily f = true → k.people.length ≤ f.people.length → implImp f l p q y = l3Listed (l9Bars f l p q y) := by
    intro f hf hn
    rw [imp_eq]
    unfold specImp
    rw [hl, (l1Has_iff f p).2 ⟨⟨hp.1, by omega⟩, hf⟩, (l1Has_iff f q).2 ⟨⟨hq.1, by omega⟩, hf⟩]
    rfl
  rw [e k (h.fam hx) (Nat.le_refl _), e x hx hpl]
  exact listed_but (m := 12) (by rw [l9Bars_len, l9Bars_len]) fun i hi => by rw [bars0_get k l p q y i hi, bars0_get x l p q y i hi, h.bars hx l hp hq]
/-! ### A family in the order of the years -/
structure Years (x : Family) : Prop where
  p : ∀ i j : Nat, i ≤ j → j < x.people.length → (x.people.getD i default).born ≤ (x.people.getD j default).born
  u : ∀ i j : Nat, i ≤ j → j < x.unions.length → (x.unions.getD i default).from0 ≤ (x.unions.getD j default).from0
structure KnI (x : Family) (y : Int) (i : Nat) (v : (List Int) × (List Person)) : Prop where
  len : v.1.length = i
  le : v.2.length ≤ i
  g : ∀ j : Nat, j < v.2.length → v.1.getD j default = ((j : Nat) : Int) ∧ v.2.getD j default = clipP y (x.people.getD j default) ∧ (x.people.getD j default).born ≤ y
  r : ∀ j : Nat, v.2.length ≤ j → j < i → y < (x.people.getD j default).born
theorem known_early {x : Family} (hx : specIsFamily x = true) (hy : Years x) (y : Int) : Early x (specKnown x y) y := by
  have hpx := isFamily_par x hx
  unfold specKnown
  rw [hx]
  simp only [Bool.not_true, cond_false]
  refine loopN_to (fun i (v : (List Int) × (List Person)) => KnI x y i v) (fun k => Early x k y) ⟨rfl, Nat.le_refl _, fun j hj => absurd hj (Nat.not_lt_zero _), fun j h1 h2 => absurd h2 (Nat.not_lt_zero _)⟩ (fun i v next hi hv hn => ?_) (fun v hv => ?_)
  · have hg0 : ∀ (j : Nat) (d : Int), j < i → (v.1 ++ [d]).getD j default = v.1.getD j default := fun j d hj => by rw [getD_snoc, if_pos (by rw [hv.len]; exact hj)]
    cases c : decide (y < (x.people.getD i default).born)
    · simp only [cond_false]
      have hb : (x.people.getD i default).born ≤ y := by have := of_decide_eq_false c; omega
      have hfull : v.2.length = i := by
        rcases Nat.lt_or_ge v.2.length i with g | g
        · have h1 := hv.r v.2.length (Nat.le_refl _) g
          have h2 := hy.p v.2.length i (by omega) hi
          omega
        · have := hv.le; omega
      have hpi := hpx i hi
      have hto : ∀ q : Int, 0 ≤ q → q < i → (v.1 ++ [((v.2.length : Nat) : Int)]).getD q.toNat default = q := fun q h0 h1 => by
        rw [hg0 _ _ (by omega), (hv.g q.toNat (by omega)).1]; omega
      have key : ∀ d : Int, d = (clipP y (x.people.getD i default)).died → KnI x y (i + 1) (v.1 ++ [((v.2.length : Nat) : Int)], v.2 ++ [Person.mk (x.people.getD i default).name (x.people.getD i default).sex (x.people.getD i default).father (x.people.getD i default).mother (x.people.getD i default).born d]) := by
        intro d hd
        refine ⟨by simp [hv.len], by simp [hfull], fun j hj => ?_, fun j h1 h2 => ?_⟩
        · simp only [List.length_append, List.length_singleton] at hj
          rw [getD_snoc, getD_snoc]
          by_cases g : j < v.2.length
          · rw [if_pos (by rw [hv.len]; omega), if_pos g]; exact hv.g j g
          · have : j = i := by omega
            subst this
            rw [if_neg (by rw [hv.len]; omega), if_pos hv.len.symm, if_neg g, if_pos hfull.symm, hfull, hd]
            exact ⟨rfl, rfl, hb⟩
        · simp only [List.length_append, List.length_singleton] at h1; omega
      have hcl : (clipP y (x.people.getD i default)).died = bif decide (y < (x.people.getD i default).died) then -1 else (x.people.getD i default).died := rfl
      have hfa : (bif (decide (0 ≤ ((x.people.getD i default).father))) then ((v.1 ++ [((v.2.length : Nat) : Int)]).getD (((x.people.getD i default).father).toNat) default) else ((x.people.getD i default).father)) = (x.people.getD i default).father := by
        cases c1 : decide (0 ≤ (x.people.getD i default).father)
        · rfl
        · rw [cond_true, hto _ (of_decide_eq_true c1) (by omega)]
      have hmo : (bif (decide (0 ≤ ((x.people.getD i default).mother))) then ((v.1 ++ [((v.2.length : Nat) : Int)]).getD (((x.people.getD i default).mother).toNat) default) else ((x.people.getD i default).mother)) = (x.people.getD i default).mother := by
        cases c1 : decide (0 ≤ (x.people.getD i default).mother)
        · rfl
        · rw [cond_true, hto _ (of_decide_eq_true c1) (by omega)]
      simp only [jn_cond, hfa, hmo]
      cases c2 : decide (y < (x.people.getD i default).died) <;> simp only [cond_true, cond_false]
      · exact hn _ (key _ (by rw [hcl, c2]; rfl))
      · exact hn _ (key _ (by rw [hcl, c2]; rfl))
    · simp only [cond_true]
      refine hn _ ⟨by simp [hv.len], by have := hv.le; dsimp only; omega, fun j hj => ?_, fun j h1 h2 => ?_⟩
      · dsimp only at hj ⊢
        rw [hg0 j _ (by have := hv.le; omega)]; exact hv.g j hj
      · rcases Nat.lt_or_ge j i with g | g
        · exact hv.r j h1 g
        · have : j = i := by omega
          subst this; exact of_decide_eq_true c
  · have hman : ∀ q : Int, 0 ≤ q → q < x.people.length → (x.people.getD q.toNat default).born ≤ y → v.1.getD q.toNat default = q := by
      intro q h0 h1 hb
      rcases Nat.lt_or_ge q.toNat v.2.length with g | g
      · rw [(hv.g _ g).1]; omega
      · have := hv.r _ g (by omega); omega
    refine loopN_to (fun i (w : List Union) => w.length ≤ i ∧ (∀ j : Nat, j < w.length → w.getD j default = clipU y (x.unions.getD j default) ∧ (x.unions.getD j default).from0 ≤ y) ∧ ∀ j : Nat, w.length ≤ j → j < i → y < (x.unions.getD j default).from0) (fun k => Early x k y)
      ⟨Nat.le_refl _, fun j hj => absurd hj (Nat.not_lt_zero _), fun j h1 h2 => absurd h2 (Nat.not_lt_zero _)⟩ (fun i w next hi hw hn => ?_) (fun w hw => ⟨hv.le, fun j hj => (hv.g j hj).2, hv.r, hw.1, hw.2.1, hw.2.2⟩)
    obtain ⟨w1, w2, w3⟩ := hw
    cases c : decide (y < (x.unions.getD i default).from0)
    · simp only [cond_false]
      have hb : (x.unions.getD i default).from0 ≤ y := by have := of_decide_eq_false c; omega
      have hfull : w.length = i := by
        rcases Nat.lt_or_ge w.length i with g | g
        · have h1 := w3 w.length (Nat.le_refl _) g
          have h2 := hy.u w.length i (by omega) hi
          omega
        · omega
      have u := fam_u hx hi
      have h1 := u.man; have h2 := u.woman; have h3 := u.from0
      rw [hman _ h1.1 h1.2 (by omega), hman _ h2.1 h2.2 (by omega)]
      have key : ∀ d : Int, d = (clipU y (x.unions.getD i default)).to → (w ++ [Union.mk (x.unions.getD i default).man (x.unions.getD i default).woman (x.unions.getD i default).from0 d]).length ≤ i + 1 ∧
          (∀ j : Nat, j < (w ++ [Union.mk (x.unions.getD i default).man (x.unions.getD i default).woman (x.unions.getD i default).from0 d]).length → (w ++ [Union.mk (x.unions.getD i default).man (x.unions.getD i default).woman (x.unions.getD i default).from0 d]).getD j default = clipU y (x.unions.getD j default) ∧ (x.unions.getD j default).from0 ≤ y) ∧
          ∀ j : Nat, (w ++ [Union.mk (x.unions.getD i default).man (x.unions.getD i default).woman (x.unions.getD i default).from0 d]).length ≤ j → j < i + 1 → y < (x.unions.getD j default).from0 := by
        intro d hd
        refine ⟨by simp [hfull], fun j hj => ?_, fun j h1 h2 => ?_⟩
        · simp only [List.length_append, List.length_singleton] at hj
          rw [getD_snoc]
          by_cases g : j < w.length
          · rw [if_pos g]; exact w2 j g
          · have : j = i := by omega
            subst this
            rw [if_neg g, if_pos hfull.symm, hd]
            exact ⟨rfl, hb⟩
        · simp only [List.length_append, List.length_singleton] at h1; omega
      have hcl : (clipU y (x.unions.getD i default)).to = bif decide (y < (x.unions.getD i default).to) then -1 else (x.unions.getD i default).to := rfl
      simp only [jn_cond]
      exact hn _ (key _ hcl.symm)
    · simp only [cond_true]
      refine hn _ ⟨by omega, w2, fun j h1 h2 => ?_⟩
      rcases Nat.lt_or_ge j i with g | g
      · exact w3 j h1 g
      · have : j = i := by omega
        subst this; exact of_decide_eq_true c
theorem Early.years {x k : Family} {y : Int} (h : Early x k y) (hy : Years x) : Years k := by
  have hpl := h.pl
  have hul := h.ul
  refine ⟨fun i j hij hj => ?_, fun i j hij hj => ?_⟩
  · rw [(h.pg i (by omega)).1, (h.pg j hj).1]; exact hy.p i j hij (by omega)
  · rw [(h.ug i (by omega)).1, (h.ug j hj).1]; exact hy.u i j hij (by omega)
theorem clipP_two {y z : Int} (h : y ≤ z) (p : Person) : clipP y (clipP z p) = clipP y p := by
  unfold clipP
  dsimp only
  by_cases c : z < p.died
  · rw [decide_eq_true c, decide_eq_true (show y < p.died by omega)]
    simp only [cond_true, Person.mk.injEq, true_and]
    cases decide (y < -1) <;> rfl
  · rw [decide_eq_false c]; rfl
theorem clipU_two {y z : Int} (h : y ≤ z) (u : Union) : clipU y (clipU z u) = clipU y u := by
  unfold clipU
  dsimp only
  by_cases c : z < u.to
  · rw [decide_eq_true c, decide_eq_true (show y < u.to by omega)]
    simp only [cond_true, Union.mk.injEq, true_and]
    cases decide (y < -1) <;> rfl
  · rw [decide_eq_false c]; rfl
/-- What was known earlier is known from what was known later. -/
theorem early_two {x k k1 k2 : Family} {y z : Int} (hyz : y ≤ z) (h : Early x k z) (h1 : Early k k1 y) (h2 : Early x k2 y) : k1 = k2 := by
  have a1 := h.pl; have a2 := h1.pl; have a3 := h2.pl
  have b1 := h.ul; have b2 := h1.ul; have b3 := h2.ul
  have lp : k1.people.length = k2.people.length := by
    rcases Nat.lt_trichotomy k1.people.length k2.people.length with g | g | g
    · have e := (h2.pg _ g).2
      rcases Nat.lt_or_ge k1.people.length k.people.length with g2 | g2
      · have := h1.pr _ (Nat.le_refl _) g2
        rw [(h.pg _ g2).1] at this
        have e2 : (clipP z (x.people.getD k1.people.length default)).born = (x.people.getD k1.people.length default).born := rfl
        omega
      · have := h.pr _ g2 (by omega); omega
    · exact g
    · have e := (h1.pg _ g).2
      rw [(h.pg _ (by omega)).1] at e
      have := h2.pr _ (Nat.le_refl _) (by omega)
      have e2 : (clipP z (x.people.getD k2.people.length default)).born = (x.people.getD k2.people.length default).born := rfl
      omega
  have lu : k1.unions.length = k2.unions.length := by
    rcases Nat.lt_trichotomy k1.unions.length k2.unions.length with g | g | g
    · have e := (h2.ug _ g).2
      rcases Nat.lt_or_ge k1.unions.length k.unions.length with g2 | g2
      · have := h1.ur _ (Nat.le_refl _) g2
        rw [(h.ug _ g2).1] at this
        have e2 : (clipU z (x.unions.getD k1.unions.length default)).from0 = (x.unions.getD k1.unions.length default).from0 := rfl
        omega
      · have := h.ur _ g2 (by omega); omega
    · exact g
    · have e := (h1.ug _ g).2
      rw [(h.ug _ (by omega)).1] at e
      have := h2.ur _ (Nat.le_refl _) (by omega)
      have e2 : (clipU z (x.unions.getD k2.unions.length default)).from0 = (x.unions.getD k2.unions.length default).from0 := rfl
      omega
  obtain ⟨P1, U1⟩ := k1
  obtain ⟨P2, U2⟩ := k2
  dsimp only at lp lu a2 b2 a3 b3
  have eP : P1 = P2 := ext_g lp fun i hi => by
    have e1 := (h1.pg i hi).1
    have e2 := (h2.pg i (by dsimp only; omega)).1
    dsimp only at e1 e2
    rw [e1, e2, (h.pg i (by omega)).1, clipP_two hyz]
  have eU : U1 = U2 := ext_g lu fun i hi => by
    have e1 := (h1.ug i hi).1
    have e2 := (h2.ug i (by dsimp only; omega)).1
    dsimp only at e1 e2
    rw [e1, e2, (h.ug i (by omega)).1, clipU_two hyz]
  rw [eP, eU]
theorem known_again {x : Family} (hx : specIsFamily x = true) (hy : Years x) (y : Int) : specKnown (specKnown x y) y = specKnown x y := by
  have h := known_early hx hy y
  exact early_two (Int.le_refl _) h (known_early (h.fam hx) (h.years hy) y) h
/-! ### The family in the order of the years -/
theorem map_loop {α β γ : Type} [Inhabited α] (f : α → β) (l : List α) (k : List β → γ) : loopN (fun i (v : List β) next => next (v ++ [f (l.getD i default)])) k l.length 0 [] = k (l.map f) := by
  refine loopN_to (fun i (v : List β) => v = (l.take i).map f) (fun r => r = k (l.map f)) rfl (fun i v next hi hv hn => hn _ ?_) (fun v hv => by rw [hv, List.take_length])
  rw [take_snoc l default hi, List.map_append, ← hv]; rfl
def byBirth (x : Family) : List Int := l11Order (x.people.map fun p => p.born)
def byFrom (R : Family) : List Int := l11Order (R.unions.map fun u => u.from0)
theorem byBirth_ok (x : Family) : PermOk x (byBirth x) := permOk (by have h := (order_ok (x.people.map fun p => p.born)).perm; rw [List.length_map] at h; exact h)
theorem order_map {α : Type} [Inhabited α] (f : α → Int) (l : List α) : (l11Order (l.map f)).Perm (upto l.length) := by
  have h := (order_ok (l.map f)).perm
  rw [List.length_map] at h
  exact h
theorem order_map_sorted {α : Type} [Inhabited α] (f : α → Int) (l : List α) {i j : Nat} (hij : i ≤ j) (hj : j < (l11Order (l.map f)).length) : f (l.getD ((l11Order (l.map f)).getD i default).toNat default) ≤ f (l.getD ((l11Order (l.map f)).getD j default).toNat default) := by
  have h := order_sorted (l.map f) hij hj
  have hr : ∀ k : Nat, k < (l11Order (l.map f)).length → 0 ≤ (l11Order (l.map f)).getD k default ∧ (l11Order (l.map f)).getD k default < l.length := fun k hk => mem_upto.1 ((order_map f l).mem_iff.1 (getD_mem hk))
  have r1 := hr i (by omega)
  have r2 := hr j hj
  rw [getD_map f (by omega), getD_map f (by omega)] at h
  exact h
theorem byBirth_sorted (x : Family) {i j : Nat} (hij : i ≤ j) (hj : j < (byBirth x).length) : (x.people.getD ((byBirth x).getD i default).toNat default).born ≤ (x.people.getD ((byBirth x).getD j default).toNat default).born := order_map_sorted (fun p : Person => p.born) x.people hij hj
theorem byFrom_sorted (x : Family) {i j : Nat} (hij : i ≤ j) (hj : j < (byFrom x).length) : (x.unions.getD ((byFrom x).getD i default).toNat default).from0 ≤ (x.unions.getD ((byFrom x).getD j default).toNat default).from0 := order_map_sorted (fun p : Union => p.from0) x.unions hij hj
theorem sorted_val {x : Family} (hx : specIsFamily x = true) : l11Sorted x = ⟨(reFamily x (byBirth x)).people, (byFrom (reFamily x (byBirth x))).map fun k => (reFamily x (byBirth x)).unions.getD k.toNat default⟩ := by
  have hv : specPermute x (byBirth x) = (reFamily x (byBirth x), true) := by
    rw [permute_val hx (byBirth_ok x), perm_fam hx (byBirth_ok x) (fun i j h1 h2 => byBirth_sorted x h1 h2)]; rfl
  unfold l11Sorted
  rw [map_loop (fun p : Person => p.born), show l11Order (x.people.map fun p => p.born) = byBirth x from rfl, hv]
  dsimp only
  rw [map_loop (fun u : Union => u.from0), map_loop (fun k : Int => ((reFamily x (byBirth x)).unions).getD k.toNat default)]
  rfl
theorem sorted_ok {x : Family} (hx : specIsFamily x = true) : specIsFamily (l11Sorted x) = true ∧ Years (l11Sorted x) ∧ (l11Sorted x).people.length = x.people.length ∧ (l11Sorted x).unions.length = x.unions.length := by
  rw [sorted_val hx]
  have hp := byBirth_ok x
  have hR := perm_fam hx hp (fun i j h1 h2 => byBirth_sorted x h1 h2)
  have ho : (byFrom (reFamily x (byBirth x))).Perm (upto (reFamily x (byBirth x)).unions.length) := by
    have h := (order_ok ((reFamily x (byBirth x)).unions.map fun u => u.from0)).perm
    rw [List.length_map] at h
    exact h
  have hpl : (reFamily x (byBirth x)).people.length = x.people.length := by simp [reFamily, hp.len]
  have hul : (reFamily x (byBirth x)).unions.length = x.unions.length := by simp [reFamily]
  have hol : (byFrom (reFamily x (byBirth x))).length = (reFamily x (byBirth x)).unions.length := by rw [ho.length_eq, upto_len]
  refine ⟨fam_reorder (P := (reFamily x (byBirth x)).people) (U := (reFamily x (byBirth x)).unions) hR ho, ⟨fun i j hij hj => ?_, fun i j hij hj => ?_⟩, hpl, by dsimp only; rw [List.length_map, hol, hul]⟩
  · dsimp only at hj ⊢
    have hget : ∀ j : Nat, j < x.people.length → ((reFamily x (byBirth x)).people.getD j default).born = (x.people.getD ((byBirth x).getD j default).toNat default).born := fun j hj => by
      have := getD_map (fun i : Int => rePerson (l1Inverse (byBirth x) ((x.people.length : Nat) : Int)).1 (x.people.getD i.toNat default)) (l := byBirth x) (k := j) (by rw [hp.len]; exact hj)
      show (((byBirth x).map fun i => rePerson (l1Inverse (byBirth x) ((x.people.length : Nat) : Int)).1 (x.people.getD i.toNat default)).getD j default).born = _
      rw [this]; rfl
    rw [hget i (by omega), hget j (by omega)]
    exact byBirth_sorted x hij (by rw [hp.len]; omega)
  · dsimp only at hj ⊢
    rw [List.length_map] at hj
    have hr : ∀ k : Nat, k < (byFrom (reFamily x (byBirth x))).length → 0 ≤ (byFrom (reFamily x (byBirth x))).getD k default ∧ (byFrom (reFamily x (byBirth x))).getD k default < (reFamily x (byBirth x)).unions.length := fun k hk => mem_upto.1 (ho.mem_iff.1 (getD_mem hk))
    rw [getD_map (fun k : Int => (reFamily x (byBirth x)).unions.getD k.toNat default) (by omega), getD_map (fun k : Int => (reFamily x (byBirth x)).unions.getD k.toNat default) hj]
    exact byFrom_sorted (reFamily x (byBirth x)) hij hj
theorem chron_ok {x : Family} (hx : specIsFamily x = true) : specIsFamily (specChron x) = true ∧ Years (specChron x) ∧ (specChron x).people.length = x.people.length ∧ (specChron x).unions.length = x.unions.length := by
  have e : specChron x = l11Sorted x := by unfold specChron; rw [hx]; rfl
  rw [e]; exact sorted_ok hx
theorem specEqFam_self (x : Family) : specEqFam x x = true := by
  unfold specEqFam
  rw [decide_eq_true rfl, decide_eq_true rfl]
  simp only [Bool.not_true, Bool.or_false, cond_false]
  rw [loopN_all]
  refine ⟨fun j _ => ?_, ?_⟩
  · simp
  · rw [loopN_all]
    exact ⟨fun j _ => by simp, rfl⟩
def C20 (R : (List Int)) : LV × List (Nat × BC) := (.own 0, [(0, .arr 1 R.length (rowOf (cInt .i64) R))])
def implMarried (x0 : Family) (x1 : Int) (x2 : Int) : (List Int) := bif (!(implHas x0 [x1])) then ([] : List Int) else (marriedAt x0 x1 x2)
def A20 (x0 : Family) (x1 : Int) (x2 : Int) : Ann := r0 1 [1, 2, 3, 6] [3] (.reg 1 [] [(2, bsC 9 (cInt .i64) ([x1] : List Int)), (3, k54 x0 [x1])] [1, 2, 3, 6, 11] [3] [] [] [] [0, 4] (cn (!(implHas x0 [x1])) (r0 1 [1, 2, 3, 6] [3] (rt [(0, none)] (C20 ([] : List Int)))) (.reg 1 [] [(3, k58 x0 x1 x2)] [6] [1015] [] [] [] [0] (rt [(0, some 1015)] (C20 (marriedAt x0 x1 x2))))))
theorem ok_impl_MarriedAt (x0 : Family) (x1 : Int) (x2 : Int) (hx : x0.people.length ≤ 1048576) (hu : x0.unions.length ≤ 1048576) (hn : ∀ p ∈ x0.people, p.name.length ≤ 1048576) : FnT Try.prog 20 [.agg (cFamily false x0), .int .i64 x1, .int .i64 x2] (C20 (implMarried x0 x1 x2)) := by
  have aux : ∀ R, implMarried x0 x1 x2 = R → slim (C20 R) (A20 x0 x1 x2) [] := by
    intro R hR
    refine rg trivial ?_
    refine rg ⟨trivial, ⟨by trivial, by trivial, by trivial, by (simp; done)⟩, trivial⟩ ?_
    revert hR; refine cd (fun hc1 hR => ?_) fun hc1 hR => ?_
    ·
      refine rg trivial ?_
      exact congrArg C20 hR
    ·
      refine rg ⟨⟨by trivial, by (exact ((implHas1 x0 x1).1 (by simpa using hc1)).1)⟩, trivial⟩ ?_
      exact congrArg C20 hR
  exact Fn.go 16 Try.func20 (by kernel_rfl) (by kernel_rfl) (by simp [C20, Frs, FrsL, FrsB, rowOf, cInt, cBool, cStr, cSl, FrsL_app, cPerson, cUnion, cFamily, cLaw, cl01Cur]) (A20 x0 x1 x2) (by kernel_rfl) (aux _ rfl)
def k20 (x0 : Family) (x1 : Int) (x2 : Int) : Cl := (hres (C20 (implMarried x0 x1 x2)), k3 (ok_impl_MarriedAt x0 x1 x2))
def C19 (R : Bool) : LV × List (Nat × BC) := (.bool R, [])
def implIsAlive (x0 : Family) (x1 : Int) (x2 : Int) : Bool := (implHas x0 [x1]) && (implAlive x0 x1 x2)
def A19 (x0 : Family) (x1 : Int) (x2 : Int) : Ann := .reg 2 [] [(1002, bsC 9 (cInt .i64) ([x1] : List Int)), (1003, k54 x0 [x1]), (1008, cg (implHas x0 [x1]) (k57 x0 x1 x2))] [6] [] [implHas x0 [x1]] [] [] [0, 4, 1, 1, 1, 8, 1] (rt [] (C19 ((implHas x0 [x1]) && (implAlive x0 x1 x2))))
theorem ok_impl_IsAlive (x0 : Family) (x1 : Int) (x2 : Int) (hx : x0.people.length ≤ 1048576) (hu : x0.unions.length ≤ 1048576) (hn : ∀ p ∈ x0.people, p.name.length ≤ 1048576) : FnT Try.prog 19 [.agg (cFamily false x0), .int .i64 x1, .int .i64 x2] (C19 (implIsAlive x0 x1 x2)) := by
  have aux : ∀ R, implIsAlive x0 x1 x2 = R → slim (C19 R) (A19 x0 x1 x2) [] := by
    intro R hR
    refine rg ⟨trivial, ⟨by trivial, by trivial, by trivial, by (simp; done)⟩, fun hg0 => ⟨by trivial, by (exact ((implHas1 x0 x1).1 hg0).2)⟩, trivial⟩ ?_
    exact congrArg C19 hR
  exact Fn.go 17 Try.func19 (by kernel_rfl) (by kernel_rfl) (by simp [C19, Frs, FrsL]) (A19 x0 x1 x2) (by kernel_rfl) (aux _ rfl)
def k19 (x0 : Family) (x1 : Int) (x2 : Int) : Cl := (hres (C19 (implIsAlive x0 x1 x2)), k3 (ok_impl_IsAlive x0 x1 x2))
theorem since_ok {b : List Int} (hb : b.length ≤ 1048576 ∧ ∀ y ∈ b, inR .u8 y) (m : Int) : specIsFamily (specChron (crowd b m)) = true ∧ Years (specChron (crowd b m)) ∧ (0 < (specChron (crowd b m)).people.length ∧ (specChron (crowd b m)).people.length ≤ 40 ∧ (specChron (crowd b m)).unions.length ≤ 60) := by
  have hc := crowd_bd hb m
  have h := chron_ok hc.1
  have := hc.2.1.1
  have := fam_n h.1
  exact ⟨h.1, h.2.1, by omega⟩
theorem since_f {b : List Int} (hb : b.length ≤ 1048576 ∧ ∀ y ∈ b, inR .u8 y) {m : Int} : specIsFamily (specChron (crowd b m)) = true := (since_ok hb m).1
theorem since_nm {b : List Int} (hb : b.length ≤ 1048576 ∧ ∀ y ∈ b, inR .u8 y) {m : Int} : ∀ p ∈ (specChron (crowd b m)).people, p.name.length ≤ 1048576 := fam_names (since_ok hb m).1
theorem since_e {b : List Int} (hb : b.length ≤ 1048576 ∧ ∀ y ∈ b, inR .u8 y) (m y : Int) : Early (specChron (crowd b m)) (implKnown (specChron (crowd b m)) y) y := by rw [known_eq]; exact known_early (since_ok hb m).1 (since_ok hb m).2.1 y
theorem since_k {b : List Int} (hb : b.length ≤ 1048576 ∧ ∀ y ∈ b, inR .u8 y) {m y : Int} : specIsFamily (implKnown (specChron (crowd b m)) y) = true := (since_e hb m y).fam (since_ok hb m).1
theorem since_knm {b : List Int} (hb : b.length ≤ 1048576 ∧ ∀ y ∈ b, inR .u8 y) {m y : Int} : ∀ p ∈ (implKnown (specChron (crowd b m)) y).people, p.name.length ≤ 1048576 := fam_names (since_k hb)
theorem known_len (x : Family) (y : Int) : (implKnown x y).people.length ≤ 40 ∧ (implKnown x y).unions.length ≤ 60 := by rw [known_eq]; exact specKnown_len x y
theorem imp_len (x : Family) (l : Law) (p q y : Int) : (implImp x l p q y).length ≤ 13 := by rw [imp_eq]; exact specImp_len x l p q y
theorem married_val {x : Family} (hx : specIsFamily x = true) {p : Int} (hp : 0 ≤ p ∧ p < x.people.length) (y : Int) : implMarried x p y = specMarried x p y := by
  unfold implMarried
  rw [(implHas1 x p).2 ⟨hx, hp⟩, married_eq hx hp]; rfl
theorem alive_val {x : Family} (hx : specIsFamily x = true) {p : Int} (hp : 0 ≤ p ∧ p < x.people.length) (y : Int) : implIsAlive x p y = l1Alive x p y := by
  unfold implIsAlive
  rw [(implHas1 x p).2 ⟨hx, hp⟩]; rfl
theorem ints_self (l : List Int) : lawInts l l = true := by
  unfold lawInts
  rw [decide_eq_true rfl]
  simp only [Bool.not_true, cond_false]
  rw [loopN_all]
  exact ⟨fun j _ => by simp, rfl⟩
theorem filt_getD (p : Int → Bool) (l : List Int) : ∀ i : Nat, i < l.length → (l.take (i + 1)).filter p = (l.take i).filter p ++ (bif p (l.getD i default) then [l.getD i default] else []) := by
  intro i hi
  rw [take_snoc l default hi, filter_snoc]
theorem known_p (x : Family) (y : Int) : (implKnown x y).people.length ≤ 1048576 := Nat.le_trans (known_len x y).1 (by decide)
theorem known_u (x : Family) (y : Int) : (implKnown x y).unions.length ≤ 1048576 := Nat.le_trans (known_len x y).2 (by decide)
theorem since_p {b : List Int} (hb : b.length ≤ 1048576 ∧ ∀ y ∈ b, inR .u8 y) {m : Int} : (specChron (crowd b m)).people.length ≤ 1048576 := by have := since_ok hb m; omega
theorem since_u {b : List Int} (hb : b.length ≤ 1048576 ∧ ∀ y ∈ b, inR .u8 y) {m : Int} : (specChron (crowd b m)).unions.length ≤ 1048576 := by have := since_ok hb m; omega
theorem since_n {b : List Int} (hb : b.length ≤ 1048576 ∧ ∀ y ∈ b, inR .u8 y) {m : Int} : 0 < (specChron (crowd b m)).people.length := (since_ok hb m).2.2.1
theorem married_len2 {x : Family} (h : x.unions.length ≤ 1048576) (p y : Int) : (implMarried x p y).length ≤ 1048576 := by
  unfold implMarried
  cases implHas x [p]
  · exact Nat.zero_le _
  · simp only [Bool.not_true, cond_false]
    refine Nat.le_trans ?_ h
    unfold marriedAt
    refine loopN_to (fun i (v : List Int) => v.length ≤ i) (fun (r : List Int) => r.length ≤ x.unions.length) (Nat.le_refl _) (fun i v next hi hv hn => ?_) (fun v hv => hv)
    refine cond_both (p := fun r : List Int => r.length ≤ x.unions.length) (fun _ => hn _ (by omega)) (fun _ => ?_)
    exact cond_both (p := fun r : List Int => r.length ≤ x.unions.length) (fun _ => hn _ (by rw [List.length_append, List.length_singleton]; omega)) (fun _ => hn _ (by omega))
theorem known_eqf (x : Family) (y : Int) : (implKnown x y).people.length ≤ 1000 ∧ (implKnown x y).unions.length ≤ 1000 := by have := known_len x y; omega
theorem lawOf_ok {b : List Int} (hx : b.length ≤ 1048576) (hb : ∀ y ∈ b, 0 ≤ y ∧ y ≤ 255) : specIsLaw (makeLaw b) = true := l9Law_ok (l01New_ok hb hx)
end Go.Proofs.Ytepefimocflfkaa
