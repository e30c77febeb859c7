import Derived.Test.YtikfeeaapenplaaVS54
set_option maxHeartbeats 4000000
set_option linter.unusedSimpArgs false
set_option linter.unusedVariables false
namespace Go.Proofs.Ytikfeeaapenplaa
open Go Go.Lite Go.Proofs
/-! ### Unions joined one after the other -/
theorem makeLaw_ok {b : List Int} (hx : b.length ≤ 1048576) (hb : ∀ y ∈ b, 0 ≤ y ∧ y ≤ 255) : specIsLaw (makeLaw b) = true := l9Law_ok (l01New_ok hb hx)
theorem listed_mem (l : List Bool) (k : Nat) : ((k : Nat) : Int) ∈ l3Listed l ↔ k < l.length ∧ l.getD k default = true := by
  unfold l3Listed
  refine loopN_to (fun i (v : List Int) => ((k : Nat) : Int) ∈ v ↔ k < i ∧ l.getD k default = true) (fun r => ((k : Nat) : Int) ∈ r ↔ k < l.length ∧ l.getD k default = true) (by simp) (fun i v next hi hv hn => ?_) (fun v hv => hv)
  refine cond_both (p := fun r => ((k : Nat) : Int) ∈ r ↔ k < l.length ∧ l.getD k default = true) (fun c => hn _ ?_) (fun c => hn _ ?_)
  · rw [List.mem_append, List.mem_singleton, hv]
    constructor
    · rintro (h | h)
      · exact ⟨by omega, h.2⟩
      · have : k = i := by omega
        subst this; exact ⟨by omega, c⟩
    · rintro ⟨h1, h2⟩
      rcases Nat.lt_or_ge k i with h | h
      · exact .inl ⟨h, h2⟩
      · right; omega
  · rw [hv]
    constructor
    · rintro ⟨h1, h2⟩; exact ⟨by omega, h2⟩
    · rintro ⟨h1, h2⟩
      rcases Nat.lt_or_ge k i with h | h
      · exact ⟨h, h2⟩
      · have : k = i := by omega
        subst this; rw [h2] at c; cases c
theorem listed_nil {l : List Bool} (h : l3Listed l = []) {k : Nat} (hk : k < l.length) : l.getD k default = false := by
  cases c : l.getD k default
  · rfl
  · have := (listed_mem l k).2 ⟨hk, c⟩
    rw [h] at this; cases this
/-- Three of the impediments. -/
theorem bars_get (x : Family) (l : Law) (p q y : Int) : (l9Bars x l p q y).getD 1 default = ((!decide (((x.people.getD p.toNat default).sex) = 1)) || (!decide (((x.people.getD q.toNat default).sex) = 2))) ∧
    (l9Bars x l p q y).getD 2 default = ((l9Life (x.people.getD p.toNat default) y) || (l9Life (x.people.getD q.toNat default) y)) ∧
    ((l9Bars x l p q y).getD 12 default = true ↔ ∃ k : Nat, k < x.unions.length ∧ (((l1Other (x.unions.getD k default) p).2) && (decide (((l1Other (x.unions.getD k default) p).1) = q))) = true) := by
  unfold l9Bars
  refine loopN_to (fun i (v : List Bool) => v.length = 13 ∧ v.getD 1 default = ((!decide (((x.people.getD p.toNat default).sex) = 1)) || (!decide (((x.people.getD q.toNat default).sex) = 2))) ∧
    v.getD 2 default = ((l9Life (x.people.getD p.toNat default) y) || (l9Life (x.people.getD q.toNat default) y)) ∧
    (v.getD 12 default = true ↔ ∃ k : Nat, k < i ∧ (((l1Other (x.unions.getD k default) p).2) && (decide (((l1Other (x.unions.getD k default) p).1) = q))) = true)) (fun (v : List Bool) => v.getD 1 default = ((!decide (((x.people.getD p.toNat default).sex) = 1)) || (!decide (((x.people.getD q.toNat default).sex) = 2))) ∧
    v.getD 2 default = ((l9Life (x.people.getD p.toNat default) y) || (l9Life (x.people.getD q.toNat default) y)) ∧
    (v.getD 12 default = true ↔ ∃ k : Nat, k < x.unions.length ∧ (((l1Other (x.unions.getD k default) p).2) && (decide (((l1Other (x.unions.getD k default) p).1) = q))) = true)) ⟨by simp, rfl, rfl, ?_⟩ (fun i v next hi hv hn => hn _ ?_) (fun v hv => hv.2)
  · constructor
    · intro h
      have : (false : Bool) = true := h
      cases this
    · rintro ⟨k, hk, _⟩; exact absurd hk (Nat.not_lt_zero _)
  · obtain ⟨h0, h1, h2, h3⟩ := hv
    refine ⟨by rw [List.length_set]; exact h0, ?_, ?_, ?_⟩
    · rw [getD_set, if_neg (fun h => by omega)]; exact h1
    · rw [getD_set, if_neg (fun h => by omega)]; exact h2
    · rw [getD_set, if_pos ⟨rfl, by omega⟩, Bool.or_eq_true, h3]
      constructor
      · rintro (⟨k, hk, h⟩ | h)
        · exact ⟨k, by omega, h⟩
        · exact ⟨i, by omega, h⟩
      · rintro ⟨k, hk, h⟩
        rcases Nat.lt_or_ge k i with c | c
        · exact .inl ⟨k, c, h⟩
        · have : k = i := by omega
          subst this; exact .inr h
theorem other_is {u : Union} {p q : Int} : (((l1Other u p).2) && (decide (((l1Other u p).1) = q))) = true ↔ (u.man = p ∧ u.woman = q) ∨ (u.man ≠ p ∧ u.woman = p ∧ u.man = q) := by
  unfold l1Other
  by_cases c : u.man = p
  · rw [decide_eq_true c, cond_true]
    simp only [Bool.true_and, decide_eq_true_eq]
    constructor
    · intro h; exact .inl ⟨c, h⟩
    · rintro (h | h)
      · exact h.2
      · exact absurd c h.1
  · rw [decide_eq_false c, cond_false]
    simp only [Bool.and_eq_true, decide_eq_true_eq]
    constructor
    · intro h; exact .inr ⟨c, h⟩
    · rintro (h | h)
      · exact absurd h.1 c
      · exact h.2
/-- What is known of two between whom there is no impediment. -/
theorem free {P : List Person} {U : List Union} (hf : specIsFamily ⟨P, U⟩ = true) {p q : Int} (hp : 0 ≤ p ∧ p < P.length) (hq : 0 ≤ q ∧ q < P.length) {l : Law} {y : Int} (h : impediments ⟨P, U⟩ l p q y = []) :
    ((P.getD p.toNat default).sex = 1 ∧ (P.getD q.toNat default).sex = 2) ∧ ((P.getD p.toNat default).born ≤ y ∧ ((P.getD p.toNat default).died = -1 ∨ y ≤ (P.getD p.toNat default).died)) ∧ ((P.getD q.toNat default).born ≤ y ∧ ((P.getD q.toNat default).died = -1 ∨ y ≤ (P.getD q.toNat default).died)) ∧
    ∀ k : Nat, k < U.length → (U.getD k default).man = p → ¬ (U.getD k default).woman = q := by
  rw [imp_core hf hp hq] at h
  have hl := l9Bars_len ⟨P, U⟩ l p q y
  have hb := bars_get ⟨P, U⟩ l p q y
  have h1 := listed_nil h (k := 1) (by omega)
  have h2 := listed_nil h (k := 2) (by omega)
  have h3 := listed_nil h (k := 12) (by omega)
  rw [hb.1] at h1
  rw [hb.2.1] at h2
  simp only [or_f_iff, not_f_iff, l9Life, decide_eq_true_eq, decide_eq_false_iff_not, and_f_iff, not_t_iff] at h1 h2
  refine ⟨h1, ?_, ?_, fun k hk e1 e2 => ?_⟩
  · have := h2.1; omega
  · have := h2.2; omega
  · have := hb.2.2.2 ⟨k, hk, other_is.2 (.inl ⟨e1, e2⟩)⟩
    rw [h3] at this; cases this
theorem join_fam {P : List Person} {U : List Union} (hf : specIsFamily ⟨P, U⟩ = true) (hU : U.length < 60) {p q : Int} (hp : 0 ≤ p ∧ p < P.length) (hq : 0 ≤ q ∧ q < P.length) {l : Law} {y : Int} (hy : y ≤ 9999) (h : impediments ⟨P, U⟩ l p q y = []) : specIsFamily ⟨P, U ++ [⟨p, q, y, -1⟩]⟩ = true := by
  obtain ⟨⟨s1, s2⟩, m, w, hd⟩ := free hf hp hq h
  obtain ⟨h1, h2, h3, h4⟩ := (fam_iff _).1 hf
  have bp := (h2 p.toNat (show p.toNat < P.length by omega)).born
  have bq := (h2 q.toNat (show q.toNat < P.length by omega)).born
  dsimp only at h1 bp bq
  refine (fam_iff _).2 ⟨⟨h1.1, by dsimp only; rw [List.length_append]; simp; omega⟩, fun k hk => ?_, h3, fun k hk => ?_⟩
  · have := h2 k hk
    exact ⟨this.name, this.sex, this.born, this.died, this.uniq, this.fa, this.mo⟩
  · have hk2 : k < U.length + 1 := by
      have : k < (U ++ [(⟨p, q, y, -1⟩ : Union)]).length := hk
      rw [List.length_append] at this; exact this
    have old : ∀ j : Nat, j < U.length → (U ++ [(⟨p, q, y, -1⟩ : Union)]).getD j default = U.getD j default := fun j hj => by
      simp [List.getD_eq_getElem?_getD, List.getElem?_append_left hj]
    rcases Nat.lt_or_ge k U.length with c | c
    · have hu := h4 k c
      obtain ⟨u1, u2, u3, u4, u5, u6, u7, u8, u9⟩ := hu
      have e := old k c
      dsimp only at u1 u2 u3 u4 u5 u6 u7 u8 u9
      rw [← e] at u1 u2 u3 u4 u5 u6 u7 u8 u9
      refine ⟨u1, u2, u3, u4, u5, u6, u7, u8, fun j hj => ?_⟩
      have := u9 j hj
      rw [← old j (by omega)] at this
      exact this
    · have : k = U.length := by omega
      subst this
      have e : (U ++ [(⟨p, q, y, -1⟩ : Union)]).getD U.length default = ⟨p, q, y, -1⟩ := by simp [List.getD_eq_getElem?_getD]
      have e2 : (Family.mk P (U ++ [(⟨p, q, y, -1⟩ : Union)])).unions.getD U.length default = ⟨p, q, y, -1⟩ := e
      refine ⟨by rw [e2]; exact hp, by rw [e2]; exact hq, by rw [e2]; exact s1, by rw [e2]; exact s2, by rw [e2]; exact ⟨m.1, w.1, hy⟩, by rw [e2]; exact .inl rfl, ?_, ?_, fun j hj => ?_⟩
      · rw [e2]; dsimp only; omega
      · rw [e2]; dsimp only; omega
      · rw [e2]
        have e3 : (Family.mk P (U ++ [(⟨p, q, y, -1⟩ : Union)])).unions.getD j default = U.getD j default := old j hj
        rw [e3]
        exact hd j hj
theorem may_nil {f : Family} {l : Law} {p q y : Int} (hf : specIsFamily f = true) (hl : specIsLaw l = true) (hp : 0 ≤ p ∧ p < f.people.length) (hq : 0 ≤ q ∧ q < f.people.length) (h : impediments f l p q y = []) : implMay f l p q y = true := by
  rw [may_eq, may_of hl hf hp hq, h]; rfl
theorem join_val {P : List Person} {U : List Union} {l : Law} {p q y : Int} (hf : specIsFamily ⟨P, U⟩ = true) (hl : specIsLaw l = true) (hU : U.length < 60) (hp : 0 ≤ p ∧ p < P.length) (hq : 0 ≤ q ∧ q < P.length) (hy : y ≤ 9999) (h : impediments ⟨P, U⟩ l p q y = []) :
    implJoin ⟨P, U⟩ l p q y = (⟨P, U ++ [⟨p, q, y, -1⟩]⟩, true) := by
  unfold implJoin copyFamily
  rw [may_nil hf hl hp hq h, isFamily_eq]
  dsimp only
  rw [join_fam hf hU hp hq hy h]
  rfl
/-- Who may be married. -/
theorem partners_mem {P : List Person} {U : List Union} {l : Law} {p y c : Int} (hc : c ∈ implPartners ⟨P, U⟩ l p y) : (0 ≤ c ∧ c < P.length) ∧ ((P.getD p.toNat default).sex = 2 → impediments ⟨P, U⟩ l c p y = []) ∧ (¬ (P.getD p.toNat default).sex = 2 → impediments ⟨P, U⟩ l p c y = []) := by
  revert hc
  unfold implPartners
  generalize hG : (fun (r : List Int) => c ∈ r → (0 ≤ c ∧ c < P.length) ∧ ((P.getD p.toNat default).sex = 2 → impediments ⟨P, U⟩ l c p y = []) ∧ (¬ (P.getD p.toNat default).sex = 2 → impediments ⟨P, U⟩ l p c y = [])) = G
  show (fun (r : List Int) => c ∈ r → (0 ≤ c ∧ c < P.length) ∧ ((P.getD p.toNat default).sex = 2 → impediments ⟨P, U⟩ l c p y = []) ∧ (¬ (P.getD p.toNat default).sex = 2 → impediments ⟨P, U⟩ l p c y = [])) _
  rw [hG]
  have h0 : G [] := by rw [← hG]; intro h; cases h
  refine cond_both (p := G) (fun _ => h0) (fun _ => ?_)
  refine loopN_to (fun _ (v : List Int) => G v) G h0 (fun i v next hi hv hn => ?_) (fun v hv => hv)
  have hi2 : i < P.length := hi
  have nil : ∀ {z : List Int}, decide (((z.length : Nat) : Int) = 0) = true → z = [] := fun h => List.eq_nil_of_length_eq_zero (by have := of_decide_eq_true h; omega)
  have add : ((0 ≤ ((i : Nat) : Int) ∧ ((i : Nat) : Int) < P.length) ∧ ((P.getD p.toNat default).sex = 2 → impediments ⟨P, U⟩ l ((i : Nat) : Int) p y = []) ∧ (¬ (P.getD p.toNat default).sex = 2 → impediments ⟨P, U⟩ l p ((i : Nat) : Int) y = [])) → G (v ++ [((i : Nat) : Int)]) := fun hh => by
    rw [← hG] at hv ⊢
    intro hm
    rcases List.mem_append.1 hm with hm | hm
    · exact hv hm
    · rw [List.mem_singleton.1 hm]; exact hh
  refine cond_both (p := G) (fun cs => ?_) (fun cs => ?_)
  · have cs := of_decide_eq_true cs
    exact cond_both (p := G) (fun cz => hn _ (add ⟨by omega, fun _ => nil cz, fun h => absurd cs h⟩)) (fun _ => hn _ hv)
  · have cs := of_decide_eq_false cs
    exact cond_both (p := G) (fun cz => hn _ (add ⟨by omega, fun h => absurd h cs, fun _ => nil cz⟩)) (fun _ => hn _ hv)
theorem imp_union {P : List Person} {U : List Union} {l : Law} {p q y : Int} (hf : specIsFamily ⟨P, U⟩ = true) (hl : specIsLaw l = true) (hp : 0 ≤ p ∧ p < P.length) (hq : 0 ≤ q ∧ q < P.length) {u : Union} (hu : u ∈ U) (e1 : u.man = p) (e2 : u.woman = q) : lawHas (implImp ⟨P, U⟩ l p q y) 12 = true := by
  rw [lawHas_iff]
  unfold implImp
  rw [has_law, hl, (l1Has_iff _ _).2 ⟨hp, hf⟩, (l1Has_iff _ _).2 ⟨hq, hf⟩]
  show (12 : Int) ∈ impediments ⟨P, U⟩ l p q y
  rw [imp_core hf hp hq]
  refine (listed_mem _ 12).2 ⟨by rw [l9Bars_len]; omega, (bars_get _ _ _ _ _).2.2.2 ?_⟩
  obtain ⟨k, hk, e⟩ := mem_getD (d := default) hu
  refine ⟨k, hk, other_is.2 (.inl ?_)⟩
  show (U.getD k default).man = p ∧ (U.getD k default).woman = q
  rw [e]; exact ⟨e1, e2⟩
theorem partnersOf_mem {P : List Person} {U : List Union} {p q : Int} (hf : specIsFamily ⟨P, U⟩ = true) (hq : 0 ≤ q ∧ q < P.length) (hp : 0 ≤ p) (hne : p ≠ q) {u : Union} (hu : u ∈ U) (e1 : u.man = p) (e2 : u.woman = q) : lawHas (implPartnersOf ⟨P, U⟩ q) p = true := by
  rw [lawHas_iff]
  unfold implPartnersOf
  rw [(implHas1 _ _).2 ⟨hf, hq⟩, Bool.not_true, cond_false]
  obtain ⟨k, hk, e⟩ := mem_getD (d := default) hu
  have ho : other (U.getD k default) q = p := by
    rw [e]; unfold other
    rw [e1, e2, decide_eq_false (fun h => hne h.symm), decide_eq_true rfl]; rfl
  refine loopN_to (fun i (v : List Int) => k < i → p ∈ v) (fun r => p ∈ r) (fun h => absurd h (Nat.not_lt_zero _)) (fun i v next hi hv hn => ?_) (fun v hv => hv hk)
  have key : k < i + 1 → k < i ∨ k = i := fun h => by omega
  refine cond_both (p := fun r => p ∈ r) (fun c => hn _ fun h => ?_) (fun c => hn _ fun h => ?_)
  · rcases key h with h | h
    · exact List.mem_append_left _ (hv h)
    · subst h
      exact List.mem_append_right _ (by rw [List.mem_singleton]; exact ho.symm)
  · rcases key h with h | h
    · exact hv h
    · subst h
      have c2 := of_decide_eq_false c
      exact absurd (show 0 ≤ other (U.getD k default) q by rw [ho]; exact hp) c2
/-- Unions that were joined under a law. -/
structure WdI (l : Law) (P : List Person) (i : Nat) (y : Int) (U : List Union) : Prop where
  fam : specIsFamily ⟨P, U⟩ = true
  len : U.length ≤ i
  yr : 0 ≤ y ∧ y ≤ 430
  to : ∀ u ∈ U, u.from0 ≤ y
  inc : U.Pairwise fun a b => a.from0 ≤ b.from0
  free : ∀ k : Nat, k < U.length → impediments ⟨P, U.take k⟩ l (U.getD k default).man (U.getD k default).woman (U.getD k default).from0 = []
theorem WdI.later {l : Law} {P : List Person} {i : Nat} {y z : Int} {U : List Union} (h : WdI l P i y U) (hz : y ≤ z ∧ z ≤ 430) : WdI l P (i + 1) z U :=
  ⟨h.fam, by have := h.len; omega, by have := h.yr; omega, fun u hu => by have := h.to u hu; omega, h.inc, h.free⟩
theorem WdI.wed {l : Law} {P : List Person} {i : Nat} {y z p q : Int} {U : List Union} (h : WdI l P i y U) (hi : i < 8) (hz : y ≤ z ∧ z ≤ 430) (hp : 0 ≤ p ∧ p < P.length) (hq : 0 ≤ q ∧ q < P.length) (hf : impediments ⟨P, U⟩ l p q z = []) : WdI l P (i + 1) z (U ++ [⟨p, q, z, -1⟩]) := by
  have hlen := h.len
  have hyr := h.yr
  refine ⟨join_fam h.fam (by omega) hp hq (by omega) hf, by rw [List.length_append]; simp; omega, by omega, fun u hu => ?_, ?_, fun k hk => ?_⟩
  · rcases List.mem_append.1 hu with hu | hu
    · have := h.to u hu; omega
    · rw [List.mem_singleton.1 hu]; exact Int.le_refl _
  · refine List.pairwise_append.2 ⟨h.inc, List.pairwise_singleton _ _, fun a ha b hb => ?_⟩
    rw [List.mem_singleton.1 hb]
    have := h.to a ha
    show a.from0 ≤ z
    omega
  · rw [List.length_append] at hk
    have hk : k < U.length + 1 := hk
    rcases Nat.lt_or_ge k U.length with c | c
    · have := h.free k c
      rw [List.take_append_of_le_length (by omega), show (U ++ [(⟨p, q, z, -1⟩ : Union)]).getD k default = U.getD k default by simp [List.getD_eq_getElem?_getD, List.getElem?_append_left c]]
      exact this
    · have : k = U.length := by omega
      subst this
      rw [List.take_append_of_le_length (Nat.le_refl _), List.take_length, show (U ++ [(⟨p, q, z, -1⟩ : Union)]).getD U.length default = ⟨p, q, z, -1⟩ by simp [List.getD_eq_getElem?_getD]]
      exact hf
/-- Each union was joined when those before it were known. -/
theorem WdI.audit {l : Law} {P : List Person} {i : Nat} {y : Int} {U : List Union} (h : WdI l P i y U) (hl : specIsLaw l = true) : implAudit ⟨P, U⟩ l = List.replicate U.length [] := by
  unfold implAudit
  rw [isFamily_eq, isLaw_eq, h.fam, hl]
  show loopN _ _ U.length 0 _ = _
  refine loopN_to (fun k (v : List (List Int)) => v = List.replicate k []) (fun r => r = List.replicate U.length []) rfl (fun k v nx hk hv hnx => ?_) (fun v hv => hv)
  have hk : k < U.length := hk
  show loopN _ _ U.length 0 _ = _
  refine loopN_to (fun j (w : List Union) => w = U.take (min j k)) (fun r => r = List.replicate U.length []) (by simp) (fun j w next hj hw hn => ?_) (fun w hw => ?_)
  · have hinc := getD_pw h.inc
    refine cond_both (p := fun r => r = List.replicate U.length []) (fun c => hn _ ?_) (fun c => hn _ ?_)
    · simp only [Bool.or_eq_true, Bool.and_eq_true, decide_eq_true_eq] at c
      have hjk : j < k := by
        rcases Nat.lt_or_ge j k with h1 | h1
        · exact h1
        · exfalso
          rcases Nat.lt_or_ge k j with h2 | h2
          · have := hinc j hj k h2
            omega
          · have : j = k := by omega
            subst this; omega
      rw [hw, Nat.min_eq_left (by omega), Nat.min_eq_left (by omega), take_snoc _ default hj]
    · have c : ¬ ((U.getD j default).from0 < (U.getD k default).from0) ∧ ¬ ((U.getD j default).from0 = (U.getD k default).from0 ∧ ((j : Nat) : Int) < ((k : Nat) : Int)) := by
        simp only [or_f_iff, and_f_iff, decide_eq_false_iff_not] at c
        exact ⟨c.1, fun h => c.2 (decide_eq_true h.1) h.2⟩
      have hjk : k ≤ j := by
        rcases Nat.lt_or_ge j k with h1 | h1
        · have := hinc k hk j h1
          omega
        · exact h1
      rw [hw, Nat.min_eq_right hjk, Nat.min_eq_right (by omega)]
  · refine hnx _ ?_
    rw [hw, Nat.min_eq_right (by omega), hv, List.replicate_succ']
    congr 2
    exact h.free k hk
theorem WdI.start {f : Family} (hf : specIsFamily f = true) (l : Law) : WdI l f.people 0 0 [] :=
  ⟨fam_sub (U := f.unions) hf (List.nil_sublist _), Nat.le_refl _, by omega, fun u hu => absurd hu List.not_mem_nil, .nil, fun k hk => absurd hk (Nat.not_lt_zero _)⟩
theorem may_free {P : List Person} {U : List Union} {l : Law} {p q y : Int} (h : implMay ⟨P, U⟩ l p q y = true) : ((0 ≤ p ∧ p < P.length) ∧ (0 ≤ q ∧ q < P.length)) ∧ impediments ⟨P, U⟩ l p q y = [] := by
  unfold implMay at h
  rw [Bool.and_eq_true, decide_eq_true_eq] at h
  have h1 := imp_pre3 h.1
  exact ⟨⟨h1.2.1, h1.2.2.1⟩, List.eq_nil_of_length_eq_zero (by have := h.2; omega)⟩
theorem WdI.joined {l : Law} {P : List Person} {i : Nat} {y z p q : Int} {U : List Union} (h : WdI l P i y U) (hl : specIsLaw l = true) (hi : i < 8) (hz : y ≤ z ∧ z ≤ 430) (hm : implMay ⟨P, U⟩ l p q z = true) : (implJoin ⟨P, U⟩ l p q z).1.people = P ∧ WdI l P (i + 1) z (implJoin ⟨P, U⟩ l p q z).1.unions := by
  have h1 := may_free hm
  have h2 := h.len
  rw [join_val h.fam hl (by omega) h1.1.1 h1.1.2 (by omega) h1.2]
  exact ⟨rfl, h.wed hi hz h1.1.1 h1.1.2 h1.2⟩
theorem join_bd (x : Family) (l : Law) (p q y : Int) : ((implJoin x l p q y).1.people.length ≤ 40 ∧ (implJoin x l p q y).1.unions.length ≤ 60) ∧ ((∀ a ∈ x.people, a.name.length ≤ 1048576) → ∀ a ∈ (implJoin x l p q y).1.people, a.name.length ≤ 1048576) := by
  unfold implJoin copyFamily
  refine cond_both (p := fun (r : Family × Bool) => (r.1.people.length ≤ 40 ∧ r.1.unions.length ≤ 60) ∧ ((∀ a ∈ x.people, a.name.length ≤ 1048576) → ∀ a ∈ r.1.people, a.name.length ≤ 1048576)) (fun _ => ⟨by simp, fun _ a ha => absurd ha List.not_mem_nil⟩) (fun _ => ?_)
  refine cond_both (p := fun (r : Family × Bool) => (r.1.people.length ≤ 40 ∧ r.1.unions.length ≤ 60) ∧ ((∀ a ∈ x.people, a.name.length ≤ 1048576) → ∀ a ∈ r.1.people, a.name.length ≤ 1048576)) (fun _ => ⟨by simp, fun _ a ha => absurd ha List.not_mem_nil⟩) (fun c => ⟨?_, fun hn => hn⟩)
  rw [not_f_iff, isFamily_eq] at c
  exact fam_n c
theorem audit_len (x : Family) (l : Law) : (implAudit x l).length ≤ x.unions.length := by
  unfold implAudit
  refine cond_both (p := fun (r : List (List Int)) => r.length ≤ x.unions.length) (fun _ => Nat.zero_le _) (fun _ => ?_)
  refine loopN_to (fun k (v : List (List Int)) => v.length ≤ k) (fun (r : List (List Int)) => r.length ≤ x.unions.length) (Nat.le_refl _) (fun k v nx hk hv hnx => ?_) (fun v hv => hv)
  exact loopN_to (fun _ (_ : List Union) => True) (fun (r : List (List Int)) => r.length ≤ x.unions.length) trivial (fun j w next hj hw hn => cond_both (p := fun (r : List (List Int)) => r.length ≤ x.unions.length) (fun _ => hn _ trivial) (fun _ => hn _ trivial)) (fun w _ => hnx _ (by rw [List.length_append]; simp; omega))
theorem wed_year {b : List Int} (h : b.length ≤ 1048576 ∧ ∀ y ∈ b, inR .u8 y) {m a : Int} (ha : 0 ≤ a ∧ a < (crowd b m).people.length) (z : Int) : 0 ≤ (((crowd b m).people.getD a.toNat default).born) + ([0, 16, 20, 30].getD ((z.tmod 4).toNat) default) ∧ (((crowd b m).people.getD a.toNat default).born) + ([0, 16, 20, 30].getD ((z.tmod 4).toNat) default) ≤ (430 : Int) := by
  have h1 := crowd_born h m _ (getD_mem (d := (default : Person)) (show a.toNat < (crowd b m).people.length by omega))
  have h2 := (fam_p (crowd_bd h m).1 (k := a.toNat) (by omega)).born
  have h3 : ∀ k : Nat, 0 ≤ ([0, 16, 20, 30] : List Int).getD k default ∧ ([0, 16, 20, 30] : List Int).getD k default ≤ 30 := fun k => by
    match k with
    | 0 => decide
    | 1 => decide
    | 2 => decide
    | 3 => decide
    | k + 4 =>
      have e : ([0, 16, 20, 30] : List Int).getD (k + 4) default = 0 := rfl
      rw [e]; omega
  have h4 := h3 (z.tmod 4).toNat
  omega
theorem WdI.next {l : Law} {P P0 : List Person} {i : Nat} {y z p q : Int} {U : List Union} (e : P = P0) (h : WdI l P0 i y U) (hl : specIsLaw l = true) (hi : i < 8) (hz : y ≤ z ∧ z ≤ 430) (hm : implMay ⟨P, U⟩ l p q z = true) : (implJoin ⟨P, U⟩ l p q z).1.people = P0 ∧ WdI l P0 (i + 1) z (implJoin ⟨P, U⟩ l p q z).1.unions := by
  subst e; exact h.joined hl hi hz hm
theorem partnersOf_len (x : Family) (p : Int) : (implPartnersOf x p).length ≤ x.unions.length := by
  unfold implPartnersOf
  refine cond_both (p := fun (r : List Int) => r.length ≤ x.unions.length) (fun _ => Nat.zero_le _) (fun _ => ?_)
  refine loopN_to (fun k (v : List Int) => v.length ≤ k) (fun (r : List Int) => r.length ≤ x.unions.length) (Nat.le_refl _) (fun k v next hk hv hn => ?_) (fun v hv => hv)
  exact cond_both (p := fun (r : List Int) => r.length ≤ x.unions.length) (fun _ => hn _ (by rw [List.length_append]; simp; omega)) (fun _ => hn _ (by omega))
theorem wed_at {b : List Int} (h : b.length ≤ 1048576 ∧ ∀ y ∈ b, inR .u8 y) {v : Int × (List Person) × (List Union)} {i : Nat} {l : Law} (hI : v.2.1 = (crowd b 12).people ∧ WdI l (crowd b 12).people i v.1 v.2.2) (hi : i < 8) :
    (0 ≤ who b ((3 * ((i : Nat) : Int)) + 1) (Family.mk v.2.1 v.2.2) ∧ who b ((3 * ((i : Nat) : Int)) + 1) (Family.mk v.2.1 v.2.2) < v.2.1.length) ∧
    (0 ≤ ((v.2.1.getD ((who b ((3 * ((i : Nat) : Int)) + 1) (Family.mk v.2.1 v.2.2)).toNat) default).born) + ([0, 16, 20, 30].getD (((at1 b ((3 * ((i : Nat) : Int)) + 2)).tmod 4).toNat) default) ∧ ((v.2.1.getD ((who b ((3 * ((i : Nat) : Int)) + 1) (Family.mk v.2.1 v.2.2)).toNat) default).born) + ([0, 16, 20, 30].getD (((at1 b ((3 * ((i : Nat) : Int)) + 2)).tmod 4).toNat) default) ≤ (430 : Int)) ∧
    (v.1 ≤ Max.max v.1 (((v.2.1.getD ((who b ((3 * ((i : Nat) : Int)) + 1) (Family.mk v.2.1 v.2.2)).toNat) default).born) + ([0, 16, 20, 30].getD (((at1 b ((3 * ((i : Nat) : Int)) + 2)).tmod 4).toNat) default)) ∧ Max.max v.1 (((v.2.1.getD ((who b ((3 * ((i : Nat) : Int)) + 1) (Family.mk v.2.1 v.2.2)).toNat) default).born) + ([0, 16, 20, 30].getD (((at1 b ((3 * ((i : Nat) : Int)) + 2)).tmod 4).toNat) default)) ≤ (430 : Int)) := by
  have hc := crowd_bd h 12
  have h9 := who_rng (bytes_ok h).2 (i := (3 * ((i : Nat) : Int)) + 1) (by omega) (x := Family.mk v.2.1 v.2.2) (by dsimp only; rw [hI.1]; exact hc.2.1.1)
  dsimp only at h9
  have h6 := wed_year h (m := 12) (a := who b ((3 * ((i : Nat) : Int)) + 1) (Family.mk v.2.1 v.2.2)) (by rw [← hI.1]; exact h9) (at1 b ((3 * ((i : Nat) : Int)) + 2))
  rw [← hI.1] at h6
  have h5 := hI.2.yr
  exact ⟨h9, h6, by omega⟩
end Go.Proofs.Ytikfeeaapenplaa
