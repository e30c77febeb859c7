import Derived.Test.YtmefknjcgdbceaaVS31
set_option maxHeartbeats 4000000
set_option linter.unusedSimpArgs false
set_option linter.unusedVariables false
namespace Go.Proofs.Ytmefknjcgdbceaa
open Go Go.Lite Go.Proofs
/-! ### Among whom an estate is divided first -/
def ShJ (f : Family) (p y : Int) (t : List Bool) (nu de : List Int) : Prop := TkEq f p y t ∧ nu = List.replicate f.people.length (0 : Int) ∧ de = List.replicate f.people.length (1 : Int)
structure WhoOk (f : Family) (y : Int) (t : List Bool) (whm gen : List Int) : Prop where
  gr : ∀ g ∈ gen, 0 ≤ g ∧ g < f.people.length
  glen : gen.length ≤ 40
  wr : ∀ c ∈ whm, (0 ≤ c ∧ c < f.people.length) ∧ t.getD c.toNat default = true
  wlen : whm.length ≤ 40
  none : whm = [] → ∀ g ∈ gen, t.getD g.toNat default = false
  sum : whm.length + sN (wt0 f y t) f.people.length ≤ pairs f
def ShI (f : Family) (p y : Int) (whm gen : List Int) (t : List Bool) (nu de : List Int) : Prop := ShJ f p y t nu de ∧ WhoOk f y t whm gen
theorem ones {d : List Int} {n : Nat} (h : d.length = n ∧ ∀ k : Nat, k < n → d.getD k default = 1) : d = List.replicate n 1 := by
  refine List.ext_getElem (by simp [h.1]) fun k h1 h2 => ?_
  have := h.2 k (by omega)
  rw [List.getD_eq_getElem?_getD, List.getElem?_eq_getElem h1, Option.getD_some] at this
  rw [this, List.getElem_replicate]
theorem ShJ.start {f : Family} (hf : specIsFamily f = true) (p y : Int) {d : List Int} (h : d.length = f.people.length ∧ ∀ k : Nat, k < f.people.length → d.getD k default = 1) {v : (List Bool) × (List Int) × (List Int)} (e : v = takePart (estate.mk f p y ([] : List Bool) (List.replicate f.people.length (default : Int)) d)) : ShJ f p y v.1 v.2.1 v.2.2 := by
  have h1 := takePart_eq (estate.mk f p y ([] : List Bool) (List.replicate f.people.length (default : Int)) d) hf
  rw [← e] at h1
  exact ⟨h1.1, by rw [h1.2]; rfl, by rw [h1.2]; exact ones h⟩
theorem ShI.start {f : Family} (hf : specIsFamily f = true) {p y : Int} (hp : 0 ≤ p ∧ p < f.people.length) {whm : List Int} {t : List Bool} {nu de : List Int} (h : ShJ f p y t nu de) (e : whm = kidsT f t p) : ShI f p y whm [p] t nu de := by
  subst e
  have h0 := h.1.self hp
  refine ⟨h, fun g hg => by rw [List.mem_singleton.1 hg]; exact hp, by simp, fun c hc => ?_, Nat.le_trans (kidsT_len t p) (fam_n hf).1, fun _ g hg => by rw [List.mem_singleton.1 hg]; exact h0, who_down hf hp h0⟩
  have := kidsT_mem hf hp.1 hc
  exact ⟨⟨by omega, this.1.2⟩, this.2.1⟩
def NextI (f : Family) (gen : List Int) (i : Nat) (l : List Int) : Prop := l.Nodup ∧ (∀ q ∈ l, (0 ≤ q ∧ q < i) ∧ ∃ g ∈ gen, isKid f q g.toNat = true) ∧ l.length ≤ i
theorem NextI.nil (f : Family) (gen : List Int) : NextI f gen 0 [] := ⟨List.nodup_nil, fun q hq => absurd hq List.not_mem_nil, Nat.le_refl _⟩
theorem NextI.skip {f : Family} {gen : List Int} {i : Nat} {l : List Int} (h : NextI f gen i l) : NextI f gen (i + 1) l := ⟨h.1, fun q hq => ⟨by have := (h.2.1 q hq).1; omega, (h.2.1 q hq).2⟩, by have := h.2.2; omega⟩
theorem NextI.snoc {f : Family} {gen : List Int} {i j : Nat} {l : List Int} (h : NextI f gen i l) (hj : j < gen.length) (hp : implParent f ((i : Nat) : Int) (gen.getD j default) = true) : NextI f gen (i + 1) (l ++ [((i : Nat) : Int)]) := by
  refine ⟨?_, fun q hq => ?_, by rw [List.length_append]; have := h.2.2; simp; omega⟩
  · rw [List.nodup_append]
    refine ⟨h.1, by simp, fun a ha b hb e => ?_⟩
    rw [List.mem_singleton.1 hb] at e
    have := (h.2.1 a ha).1
    omega
  · rcases List.mem_append.1 hq with hq | hq
    · exact h.skip.2.1 q hq
    · rw [List.mem_singleton.1 hq]
      exact ⟨by omega, _, getD_mem hj, hp⟩
def gmu (l : List Int) : Nat := l.foldr (fun c a => max (c.toNat + 1) a) 0
theorem gmu_le : ∀ {l : List Int} {k : Nat}, gmu l ≤ k ↔ ∀ c ∈ l, c.toNat + 1 ≤ k
  | [], k => by simp [gmu]
  | c :: l, k => by
    have h := gmu_le (l := l) (k := k)
    unfold gmu at h ⊢
    rw [List.foldr_cons]
    constructor
    · intro hh d hd
      rcases List.mem_cons.1 hd with e | hd
      · subst e; omega
      · exact h.1 (by omega) d hd
    · intro hh
      have h1 := hh c (by simp)
      have h2 := h.2 fun d hd => hh d (by simp [hd])
      omega
theorem NextI.dec {f : Family} (hf : specIsFamily f = true) {gen l : List Int} (hg : ∀ g ∈ gen, 0 ≤ g ∧ g < f.people.length) (h0 : 0 < gen.length) (h : NextI f gen f.people.length l) : gmu l < gmu gen := by
  have h1 := gmu_le.1 (Nat.le_refl (gmu gen))
  have h2 : 1 ≤ gmu gen := by
    have := h1 _ (getD_mem (d := (default : Int)) h0); omega
  have h3 : gmu l ≤ gmu gen - 1 := gmu_le.2 fun q hq => by
    obtain ⟨h4, g, h5, h6⟩ := h.2.1 q hq
    have h7 := h1 g h5
    have h8 := hg g h5
    have h9 := fam_p hf (k := g.toNat) (by omega)
    have hfa := h9.fa; have hmo := h9.mo
    simp only [isKid, Bool.or_eq_true, decide_eq_true_eq] at h6
    omega
  omega
theorem ShI.next {f : Family} (hf : specIsFamily f = true) {p y : Int} {whm gen l : List Int} {t : List Bool} {nu de : List Int} (h : ShI f p y whm gen t nu de) (hw : whm = []) (hl : NextI f gen f.people.length l) :
    ShI f p y (taking (estate.mk f p y t nu de) l).1 l (taking (estate.mk f p y t nu de) l).2.1 (taking (estate.mk f p y t nu de) l).2.2.1 (taking (estate.mk f p y t nu de) l).2.2.2 := by
  rw [taking_val]
  have hn := (fam_n hf).1
  have h1 : ∀ g ∈ gen, (0 ≤ g ∧ g < f.people.length) ∧ t.getD g.toNat default = false := fun g hg => ⟨h.2.gr g hg, h.2.none hw g hg⟩
  refine ⟨h.1, fun q hq => (hl.2.1 q hq).1, Nat.le_trans hl.2.2 hn, fun c hc => ?_, Nat.le_trans (List.length_filter_le _ _) (Nat.le_trans hl.2.2 hn), fun e g hg => ?_, ?_⟩
  · have := List.mem_filter.1 hc
    exact ⟨(hl.2.1 c this.1).1, this.2⟩
  · rcases hb : t.getD g.toNat default with _ | _
    · rfl
    · have : g ∈ l.filter fun c => t.getD c.toNat default := List.mem_filter.2 ⟨hg, hb⟩
      rw [show (l.filter fun c => t.getD c.toNat default) = [] from e] at this; cases this
  · exact who_up hf h1 (hl.1.filter _) fun q hq => by
      have := (List.mem_filter.1 hq).1
      exact hl.2.1 q this
theorem pr_pos {f : Family} {y : Int} {t : List Bool} (ht : TkOk f y t) (n : Nat) : ∀ k : Nat, 0 < pr (wt f y t) n k
  | 0 => Nat.one_pos
  | k + 1 => by
    refine Nat.mul_pos ?_ (pr_pos ht n k)
    unfold wt
    split
    · rename_i h
      simp only [Bool.and_eq_true, Bool.not_eq_true'] at h
      exact List.length_pos_iff.2 ((ht.kid _ (by omega) (by simpa using h.1)).resolve_left (by rw [h.2]; simp))
    · exact Nat.one_pos
theorem sum_rep : ∀ n : Nat, (List.replicate n 0).sum = 0
  | 0 => rfl
  | n + 1 => by rw [List.replicate_succ, List.sum_cons, sum_rep n]
theorem RepS.start {D : Nat} (h : 0 < D) (n : Nat) : RepS D (List.replicate n 0) (List.replicate n (0 : Int)) (List.replicate n (1 : Int)) := by
  refine ⟨h, by simp, by simp, fun k hk => ?_, fun k hk => ?_⟩
  · rw [List.length_replicate] at hk
    rw [getD_rep, getD_rep, if_pos hk, if_pos hk, Nat.zero_div]; rfl
  · rw [List.length_replicate] at hk
    rw [getD_rep, getD_rep, if_pos hk, if_pos hk, Nat.gcd_zero_left, Nat.div_self h]; rfl
theorem ShI.div {f : Family} (hf : specIsFamily f = true) {p y : Int} {whm gen : List Int} {t : List Bool} {nu de : List Int} (h : ShI f p y whm gen t nu de) (hw : 0 < whm.length) : DivOk (estate.mk f p y t nu de) whm 1 1 := by
  obtain ⟨⟨h1, rfl, rfl⟩, h2⟩ := h
  have hD : 0 < whole f y t whm.length := Nat.mul_pos hw (pr_pos h1.ok _ _)
  exact ⟨⟨hf, h1.ok⟩, ⟨h2.wr, List.length_pos_iff.1 hw, h2.wlen⟩, rfl, 1, whole f y t whm.length, List.replicate f.people.length 0, ⟨rfl, Nat.one_pos⟩, by simp, RepS.start hD _, by rw [sum_rep, Nat.div_one]; omega, fun c hc => who_bdg hf (Nat.le_trans h2.sum (pairs_le hf)) (by have := h2.wlen; omega) (h2.wr c hc)⟩
theorem ones_step {d : List Int} {n i : Nat} (h : d.length = n ∧ ∀ k : Nat, k < i → d.getD k default = 1) (hi : i < n) : (d.set i 1).length = n ∧ ∀ k : Nat, k < i + 1 → (d.set i 1).getD k default = 1 := by
  refine ⟨by rw [List.length_set]; exact h.1, fun k hk => ?_⟩
  rw [getD_set]
  by_cases e : k = i
  · rw [if_pos ⟨e, by omega⟩]
  · rw [if_neg (fun h => e h.1)]; exact h.2 k (by omega)
theorem ShJ.kids {f : Family} (hf : specIsFamily f = true) {p y : Int} {t : List Bool} {nu de : List Int} (h : ShJ f p y t nu de) : ShJ f p y (taking (estate.mk f p y t nu de) (implKids f p)).2.1 (taking (estate.mk f p y t nu de) (implKids f p)).2.2.1 (taking (estate.mk f p y t nu de) (implKids f p)).2.2.2 ∧ (taking (estate.mk f p y t nu de) (implKids f p)).1 = kidsT f (taking (estate.mk f p y t nu de) (implKids f p)).2.1 p := by
  rw [kidsT_taking (x := estate.mk f p y t nu de) hf p]
  exact ⟨h, rfl⟩
theorem ShJ.lens {f : Family} {p y : Int} {t : List Bool} {nu de : List Int} (h : ShJ f p y t nu de) : t.length = f.people.length ∧ nu.length = f.people.length ∧ de.length = f.people.length := by
  obtain ⟨h1, rfl, rfl⟩ := h
  exact ⟨h1.len, by simp, by simp⟩
theorem div_lens {x : estate} {l : List Int} (h : DivOk x l 1 1) : (divide x l 1 1).2.1.length = x.f.people.length ∧ (divide x l 1 1).2.2.length = x.f.people.length := by
  have hn := h.n
  obtain ⟨⟨hf, ht⟩, ⟨hk, hl, h40⟩, _, d, D, S, ⟨e, hd⟩, hS, hR, hs, hb⟩ := h
  have e : d = 1 := by omega
  subst e
  have h1 : lmu x.f.people.length l ≤ 81 := lmu_le.2 fun c hc => by have := (hk c hc).1; omega
  have h2 := ((give_sem 100).2 x l 1 D S hf (fun c hc => (hk c hc).1) (by omega) hd hS hR (fun c hc r hr => (hb c hc r hr).1)).2
  unfold divide
  exact ⟨h2.ln.trans (((gS_len _ _ _ _).2 _ _ _).trans hS), h2.ld.trans (((gS_len _ _ _ _).2 _ _ _).trans hS)⟩
theorem who_nil {l : List Int} {g : Bool} (h : (decide (((l.length : Nat) : Int) = 0) && g) = true) : l = [] := by
  simp only [Bool.and_eq_true, decide_eq_true_eq] at h
  exact List.eq_nil_of_length_eq_zero (by omega)
theorem gen_pos {l : List Int} {g : Bool} (h : (g && decide (0 < ((l.length : Nat) : Int))) = true) : 0 < l.length := by
  simp only [Bool.and_eq_true, decide_eq_true_eq] at h; omega
theorem who_pos {l : List Int} (h : decide (0 < ((l.length : Nat) : Int)) = true) : 0 < l.length := by
  have := of_decide_eq_true h; omega
theorem ShI.gr {f : Family} {p y : Int} {whm gen : List Int} {t : List Bool} {nu de : List Int} (h : ShI f p y whm gen t nu de) : ∀ g ∈ gen, 0 ≤ g ∧ g < f.people.length := h.2.gr
theorem ShI.gl {f : Family} {p y : Int} {whm gen : List Int} {t : List Bool} {nu de : List Int} (h : ShI f p y whm gen t nu de) : gen.length ≤ 40 := h.2.glen
end Go.Proofs.Ytmefknjcgdbceaa
