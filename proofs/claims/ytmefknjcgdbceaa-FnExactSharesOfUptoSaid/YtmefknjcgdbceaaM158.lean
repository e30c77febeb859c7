import Derived.Test.YtmefknjcgdbceaaVS36
set_option maxHeartbeats 4000000
set_option linter.unusedSimpArgs false
set_option linter.unusedVariables false
namespace Go.Proofs.Ytmefknjcgdbceaa
open Go Go.Lite Go.Proofs
/-! ### The reference's shares: who takes part, ways up -/
theorem par_kid {f : Family} {a q : Int} (ha : 0 ≤ a ∧ a < f.people.length) (h : q ∈ l1Parents f a) : a ∈ l1Children f q ∧ 0 ≤ q ∧ (q = (f.people.getD a.toNat default).father ∨ q = (f.people.getD a.toNat default).mother) := by
  obtain ⟨k, hk, e⟩ := mem_getD (d := default) h
  have h1 := (l1Parents_rng f a).2 k hk
  rw [e] at h1
  refine ⟨(l1Children_mem f q a).2 ⟨a.toNat, by omega, by omega, ?_⟩, h1.1, by omega⟩
  omega
theorem l10Gcd_val (a b : Nat) : l10Gcd (a : Int) (b : Int) = ((Nat.gcd a b : Nat) : Int) := by
  rw [← implGcd_val]; rfl
theorem l10Part_eq {f : Family} (hf : specIsFamily f = true) (p y : Int) : TkEq f p y (l10Part f p y) := by
  have hn := (fam_n hf).1
  have hd0 : ∀ q : Nat, (List.replicate f.people.length (default : Bool)).getD q default = false := fun q => by
    rw [getD_rep]; split <;> rfl
  have h00 : ∀ q : Nat, (List.replicate f.people.length (default : Bool)).getD q default = (l1Children f (q : Int)).any fun c => decide (((f.people.length : Nat) : Int) - 1 < c) && (List.replicate f.people.length (default : Bool)).getD c.toNat default := fun q => by
    rw [hd0]
    symm
    rw [List.any_eq_false]
    intro c hc
    rw [hd0, Bool.and_false]
    exact Bool.false_ne_true
  unfold l10Part
  refine loopW_to (fun (v : (List Bool) × Int) => (-1 ≤ v.2 ∧ v.2 < f.people.length) ∧ v.1.length = f.people.length ∧ (∀ q : Nat, (q : Int) ≤ v.2 → v.1.getD q default = (l1Children f (q : Int)).any fun c => decide (v.2 < c) && v.1.getD c.toNat default) ∧ ∀ q : Nat, v.2 < (q : Int) → q < f.people.length → v.1.getD q default = (!(decide ((q : Int) = p) || decide (y < (f.people.getD q default).born)) && (l1Alive f (q : Int) y || (l1Children f (q : Int)).any fun c => v.1.getD c.toNat default))) (fun v => (v.2 + 1).toNat) (fun (r : List Bool) => TkEq f p y r) (fun v next hv hnx => ?_) _ _ (Nat.lt_succ_self _) ⟨by dsimp only; omega, by simp, fun q _ => h00 q, fun q h1 h2 => absurd h1 (by dsimp only; omega)⟩
  obtain ⟨h1, h2, h3, h4⟩ := hv
  refine cond_both (p := fun (r : List Bool) => TkEq f p y r) (fun hc => ?_) (fun hc => ?_)
  · have hc := of_decide_eq_true hc
    have hself : ∀ x ∈ l1Parents f v.2, 0 ≤ x ∧ x < v.2 := fun x hx => parent_lt (isFamily_par f hf) (by omega) hx
    refine jn_to (fun (j : List Bool) => j = v.1.set v.2.toNat (!(decide (v.2 = p) || decide (y < (f.people.getD v.2.toNat default).born)) && (v.1.getD v.2.toNat default || l1Alive f v.2 y))) (fun (r : List Bool) => TkEq f p y r) (fun K hK => ?_) fun j hj => ?_
    · refine cond_both (p := fun (r : List Bool) => TkEq f p y r) (fun hd => hK _ ?_) (fun hd => hK _ ?_)
      · rw [hd, List.set_set]; rfl
      · rw [hd]; rfl
    · have hjl : j.length = f.people.length := by rw [hj, List.length_set]; exact h2
      refine loopN_to (fun i (w : List Bool) => w.length = f.people.length ∧ ∀ q : Nat, w.getD q default = (j.getD q default || (decide ((q : Int) ∈ (l1Parents f v.2).take i) && j.getD v.2.toNat default))) (fun (r : List Bool) => TkEq f p y r) ⟨hjl, fun q => by simp⟩ (fun i w next2 hi hw hn2 => ?_) (fun w hw => ?_)
      · have hm := getD_mem (d := (default : Int)) hi
        have hk := hself _ hm
        refine hn2 _ ⟨by rw [List.length_set]; exact hw.1, fun q => ?_⟩
        have hq0 : w.getD v.2.toNat default = j.getD v.2.toNat default := by
          rw [hw.2]
          have : ¬ ((v.2.toNat : Nat) : Int) ∈ (l1Parents f v.2).take i := fun h => by
            have := hself _ (List.mem_of_mem_take h); omega
          rw [decide_eq_false this]; simp
        rw [getD_set, take_snoc _ default hi, hq0]
        by_cases e : q = ((l1Parents f v.2).getD i default).toNat
        · rw [if_pos ⟨e, by omega⟩, ← e, hw.2 q]
          have : (q : Int) ∈ (l1Parents f v.2).take i ++ [(l1Parents f v.2).getD i default] := by
            rw [List.mem_append]; right; rw [List.mem_singleton]; omega
          rw [decide_eq_true this, Bool.true_and]
          cases j.getD q default <;> cases j.getD v.2.toNat default <;> simp
        · rw [if_neg (fun h => e h.1), hw.2 q]
          congr 2
          rw [decide_eq_decide, List.mem_append, List.mem_singleton]
          constructor
          · exact .inl
          · rintro (h | h)
            · exact h
            · exact absurd (by rw [← h]; simp) e
      · rw [List.take_length] at hw
        obtain ⟨hwl, hw⟩ := hw
        have hup : ∀ q : Nat, v.2 ≤ (q : Int) → w.getD q default = j.getD q default := fun q hq => by
          rw [hw q]
          have : ¬ (q : Int) ∈ l1Parents f v.2 := fun h => by have := hself _ h; omega
          rw [decide_eq_false this]; simp
        have hjo : ∀ q : Nat, (q : Int) ≠ v.2 → j.getD q default = v.1.getD q default := fun q hq => by
          rw [hj, getD_set, if_neg (fun h => by omega)]
        have hkw : ∀ q : Nat, v.2 ≤ (q : Int) → ∀ c ∈ l1Children f (q : Int), w.getD c.toNat default = v.1.getD c.toNat default := fun q hq c hc2 => by
          have := kid_lt hf (p := (q : Int)) (by omega) hc2
          rw [hup _ (by omega), hjo _ (by omega)]
        refine hnx _ ⟨by dsimp only; omega, hwl, fun q hq => ?_, fun q g1 g2 => ?_⟩ (by dsimp only; omega)
        · dsimp only at hq ⊢
          rw [hw q, hjo q (by omega), h3 q (by omega), Bool.eq_iff_iff, Bool.or_eq_true, List.any_eq_true, List.any_eq_true]
          constructor
          · rintro (⟨c, k1, k2⟩ | h)
            · rw [Bool.and_eq_true, decide_eq_true_eq] at k2
              refine ⟨c, k1, ?_⟩
              rw [Bool.and_eq_true, decide_eq_true_eq]
              exact ⟨by omega, by rw [hup _ (by omega), hjo _ (by omega)]; exact k2.2⟩
            · rw [Bool.and_eq_true, decide_eq_true_eq] at h
              refine ⟨v.2, (par_kid (by omega) h.1).1, ?_⟩
              rw [Bool.and_eq_true, decide_eq_true_eq]
              exact ⟨by omega, by rw [hup _ (by omega)]; exact h.2⟩
          · rintro ⟨c, k1, k2⟩
            rw [Bool.and_eq_true, decide_eq_true_eq] at k2
            rcases Int.lt_or_le v.2 c with e | e
            · left
              refine ⟨c, k1, ?_⟩
              rw [Bool.and_eq_true, decide_eq_true_eq]
              exact ⟨e, by have h9 := k2.2; rw [hup _ (by omega), hjo _ (by omega)] at h9; exact h9⟩
            · right
              have : c = v.2 := by omega
              subst this
              rw [Bool.and_eq_true, decide_eq_true_eq]
              exact ⟨kid_par (by omega) k1, by have h9 := k2.2; rw [hup _ (by omega)] at h9; exact h9⟩
        · dsimp only at g1 ⊢
          have e3 : ((l1Children f (q : Int)).any fun c => w.getD c.toNat default) = (l1Children f (q : Int)).any fun c => v.1.getD c.toNat default := by
            rw [Bool.eq_iff_iff, List.any_eq_true, List.any_eq_true]
            constructor
            · rintro ⟨c, k1, k2⟩; exact ⟨c, k1, by rw [hkw q (by omega) c k1] at k2; exact k2⟩
            · rintro ⟨c, k1, k2⟩; exact ⟨c, k1, by rw [hkw q (by omega) c k1]; exact k2⟩
          rw [e3, hup q (by omega)]
          by_cases e : (q : Int) = v.2
          · have h8 := h3 q (by omega)
            have e4 : ((l1Children f (q : Int)).any fun c => decide (v.2 < c) && v.1.getD c.toNat default) = (l1Children f (q : Int)).any fun c => v.1.getD c.toNat default := by
              rw [Bool.eq_iff_iff, List.any_eq_true, List.any_eq_true]
              constructor
              · rintro ⟨c, k1, k2⟩; exact ⟨c, k1, (Bool.and_eq_true _ _ ▸ k2 : _ ∧ _).2⟩
              · rintro ⟨c, k1, k2⟩
                have := kid_lt hf (p := (q : Int)) (by omega) k1
                exact ⟨c, k1, by rw [Bool.and_eq_true, decide_eq_true_eq]; exact ⟨by omega, k2⟩⟩
            rw [hj, getD_set, if_pos ⟨by omega, by omega⟩, ← e, Int.toNat_natCast, h8, e4]
            congr 1
            exact Bool.or_comm _ _
          · rw [hjo q e, h4 q (by omega) g2]
  · have hc := of_decide_eq_false hc
    exact ⟨h2, fun q hq => h4 q (by omega) hq⟩
/-- The parents of some persons, each once. -/
def parG (f : Family) (gen : List Int) : List Int := List.map (fun (q : Nat) => (q : Int)) ((List.range f.people.length).filter fun (q : Nat) => gen.any fun g => isKid f (q : Int) g.toNat)
theorem parG_mem {f : Family} {gen : List Int} {q : Int} : q ∈ parG f gen ↔ (0 ≤ q ∧ q < f.people.length) ∧ ∃ g ∈ gen, isKid f q g.toNat = true := by
  unfold parG
  rw [List.mem_map]
  constructor
  · rintro ⟨k, h, rfl⟩
    have h2 := List.mem_filter.1 h
    have h3 := List.mem_range.1 h2.1
    exact ⟨by omega, List.any_eq_true.1 h2.2⟩
  · rintro ⟨h, h2⟩
    refine ⟨q.toNat, List.mem_filter.2 ⟨List.mem_range.2 (by omega), ?_⟩, by omega⟩
    rw [List.any_eq_true, show ((q.toNat : Nat) : Int) = q by omega]
    exact h2
theorem parG_next {f : Family} (gen : List Int) : NextI f gen f.people.length (parG f gen) := by
  refine ⟨?_, fun q hq => parG_mem.1 hq, ?_⟩
  · unfold parG
    exact List.Pairwise.map (fun (q : Nat) => (q : Int)) (fun a b h hh => h (Int.ofNat.inj hh)) ((List.nodup_range).filter _)
  · unfold parG
    rw [List.length_map]
    exact Nat.le_trans (List.length_filter_le _ _) (by simp)
theorem listed_val (l : List Bool) : l3Listed l = ((List.range l.length).filter fun k => l.getD k default).map fun (k : Nat) => (k : Int) := by
  unfold l3Listed
  refine loopN_to (fun i (v : List Int) => v = ((List.range i).filter fun k => l.getD k default).map fun (k : Nat) => (k : Int)) (fun r => r = ((List.range l.length).filter fun k => l.getD k default).map fun (k : Nat) => (k : Int)) rfl (fun i v next hi hv hn => ?_) (fun v hv => hv)
  refine cond_both (p := fun r => r = ((List.range l.length).filter fun k => l.getD k default).map fun (k : Nat) => (k : Int)) (fun c => hn _ ?_) (fun c => hn _ ?_)
  · rw [List.range_succ, filter_snoc, c, List.map_append, hv]; rfl
  · rw [List.range_succ, filter_snoc, c, hv]; simp
theorem l10Parents_eq {f : Family} (hf : specIsFamily f = true) {l : List Int} (hl : ∀ c ∈ l, 0 ≤ c ∧ c < f.people.length) : l10Parents f l = parG f l := by
  unfold l10Parents
  refine loopN_to (fun i (m : List Bool) => m.length = f.people.length ∧ ∀ q : Nat, q < f.people.length → m.getD q default = (l.take i).any fun g => isKid f (q : Int) g.toNat) (fun r => r = parG f l) ⟨by simp, fun q hq => by rw [getD_rep, if_pos hq]; simp⟩ (fun i m nx hi hm hnx => ?_) (fun m hm => ?_)
  · have hc := hl _ (getD_mem (d := (default : Int)) hi)
    refine loopN_to (fun j (w : List Bool) => w.length = f.people.length ∧ ∀ q : Nat, q < f.people.length → w.getD q default = (m.getD q default || decide ((q : Int) ∈ (l1Parents f (l.getD i default)).take j))) (fun r => r = parG f l) ⟨hm.1, fun q _ => by simp⟩ (fun j w next hj hw hn => ?_) (fun w hw => ?_)
    · have hk := parent_lt (isFamily_par f hf) hc (getD_mem (d := (default : Int)) hj)
      refine hn _ ⟨by rw [List.length_set]; exact hw.1, fun q hq => ?_⟩
      rw [getD_set, take_snoc _ default hj]
      by_cases e : q = ((l1Parents f (l.getD i default)).getD j default).toNat
      · rw [if_pos ⟨e, by omega⟩]
        have : (q : Int) ∈ (l1Parents f (l.getD i default)).take j ++ [(l1Parents f (l.getD i default)).getD j default] := by
          rw [List.mem_append]; right; rw [List.mem_singleton]; omega
        rw [decide_eq_true this, Bool.or_true]
      · rw [if_neg (fun h => e h.1), hw.2 q hq]
        congr 1
        rw [decide_eq_decide, List.mem_append, List.mem_singleton]
        constructor
        · exact .inl
        · rintro (h | h)
          · exact h
          · exact absurd (by rw [← h]; simp) e
    · rw [List.take_length] at hw
      refine hnx _ ⟨hw.1, fun q hq => ?_⟩
      rw [hw.2 q hq, hm.2 q hq, take_snoc _ default hi, List.any_append, List.any_cons, List.any_nil, Bool.or_false]
      congr 1
      rw [Bool.eq_iff_iff, decide_eq_true_eq]
      constructor
      · intro h
        have h2 := (par_kid hc h).2.2
        simp only [isKid, Bool.or_eq_true, decide_eq_true_eq]
        rcases h2 with e | e
        · exact .inl e.symm
        · exact .inr e.symm
      · intro h
        simp only [isKid, Bool.or_eq_true, decide_eq_true_eq] at h
        refine kid_par (by omega) ((l1Children_mem f (q : Int) _).2 ⟨(l.getD i default).toNat, by omega, by omega, ?_⟩)
        rcases h with e | e
        · exact .inl e
        · exact .inr e
  · rw [List.take_length] at hm
    rw [listed_val, hm.1]
    unfold parG
    congr 1
    refine List.filter_congr fun q hq => ?_
    exact hm.2 q (List.mem_range.1 hq)
/-- What is asked where a fraction is added. -/
def AddOk (s : Share) (num den : Int) : Prop := num = 1 ∧ ∃ (D S d : Nat), (den = (d : Int) ∧ 0 < d ∧ d ∣ D) ∧ (s.num = ((S / Nat.gcd S D : Nat) : Int) ∧ s.den = ((D / Nat.gcd S D : Nat) : Int)) ∧ (0 < D ∧ D ≤ 9223372036854775807) ∧ S + D / d ≤ D
theorem add_frac {D n d a b : Nat} (hD : 0 < D) (hd : d ∣ D) (hb : b ∣ D) (h0 : 0 < d) (h1 : 0 < b) :
    ((d / Nat.gcd d b) * b ∣ D ∧ 0 < (d / Nat.gcd d b) * b) ∧ (n * (b / Nat.gcd d b) + a * (d / Nat.gcd d b)) * (D / ((d / Nat.gcd d b) * b)) = n * (D / d) + a * (D / b) := by
  have hg : 0 < Nat.gcd d b := Nat.gcd_pos_of_pos_left _ h0
  have e1 : (d / Nat.gcd d b) * b = d * b / Nat.gcd d b := Nat.div_mul_right_comm (Nat.gcd_dvd_left d b) b
  have e2 : d * (b / Nat.gcd d b) = d * b / Nat.gcd d b := (Nat.mul_div_assoc d (Nat.gcd_dvd_right d b)).symm
  have hl : (d / Nat.gcd d b) * b ∣ D := by
    rw [e1]; exact Nat.lcm_dvd hd hb
  have hp : 0 < (d / Nat.gcd d b) * b := Nat.mul_pos (Nat.div_pos (Nat.le_of_dvd h0 (Nat.gcd_dvd_left _ _)) hg) h1
  have e3 : (d / Nat.gcd d b) * b = d * (b / Nat.gcd d b) := e1.trans e2.symm
  refine ⟨⟨hl, hp⟩, ?_⟩
  obtain ⟨e, rfl⟩ := hl
  rw [Nat.mul_div_cancel_left _ hp]
  have h2 : (d / Nat.gcd d b) * b * e / d = (b / Nat.gcd d b) * e := by rw [e3, Nat.mul_assoc, Nat.mul_div_cancel_left _ h0]
  have h3 : (d / Nat.gcd d b) * b * e / b = (d / Nat.gcd d b) * e := by rw [Nat.mul_comm (d / Nat.gcd d b) b, Nat.mul_assoc, Nat.mul_div_cancel_left _ h1]
  rw [h2, h3, Nat.add_mul, Nat.mul_assoc, Nat.mul_assoc]
theorem add_core {D S d : Nat} (hD : 0 < D) (hd : 0 < d) (hdv : d ∣ D) : ∃ G L A B N g2 : Nat,
    (l10Gcd ((D / Nat.gcd S D : Nat) : Int) (d : Int) = (G : Int) ∧ ((D / Nat.gcd S D : Nat) : Int).tdiv (G : Int) = (A : Int) ∧ (A : Int) * (d : Int) = (L : Int) ∧ (L : Int).tdiv ((D / Nat.gcd S D : Nat) : Int) = (B : Int) ∧ (L : Int).tdiv (d : Int) = (A : Int)) ∧
    (((S / Nat.gcd S D : Nat) : Int) * (B : Int) = ((S / Nat.gcd S D * B : Nat) : Int) ∧ ((S / Nat.gcd S D : Nat) : Int) * (B : Int) + 1 * (A : Int) = (N : Int) ∧ l10Gcd (N : Int) (L : Int) = (g2 : Int) ∧ (N : Int).tdiv (g2 : Int) = (((S + D / d) / Nat.gcd (S + D / d) D : Nat) : Int) ∧ (L : Int).tdiv (g2 : Int) = ((D / Nat.gcd (S + D / d) D : Nat) : Int)) ∧
    (0 < G ∧ 0 < g2 ∧ (0 < D / Nat.gcd S D ∧ D / Nat.gcd S D ≤ D) ∧ (0 < L ∧ L ≤ D) ∧ A ≤ L ∧ B ≤ L ∧ S / Nat.gcd S D * B ≤ N ∧ (S + D / d ≤ D → N ≤ L)) := by
  have hg : 0 < Nat.gcd S D := Nat.gcd_pos_of_pos_right _ hD
  have ha : 0 < D / Nat.gcd S D := Nat.div_pos (Nat.le_of_dvd hD (Nat.gcd_dvd_right _ _)) hg
  have haD : D / Nat.gcd S D ∣ D := Nat.div_dvd_of_dvd (Nat.gcd_dvd_right _ _)
  have hS : S / Nat.gcd S D * (D / (D / Nat.gcd S D)) = S := by
    rw [Nat.div_div_self (Nat.gcd_dvd_right _ _) (by omega), Nat.div_mul_cancel (Nat.gcd_dvd_left S D)]
  have hle := Nat.div_le_self D (Nat.gcd S D)
  revert ha haD hS hle
  generalize D / Nat.gcd S D = a
  generalize S / Nat.gcd S D = n0
  intro ha haD hS hle
  have hf := add_frac (D := D) (n := n0) (d := a) (a := 1) (b := d) hD haD hdv ha hd
  obtain ⟨⟨h1, h2⟩, h3⟩ := hf
  have hG : 0 < Nat.gcd a d := Nat.gcd_pos_of_pos_left _ ha
  have e3 : (a / Nat.gcd a d) * d = a * (d / Nat.gcd a d) := by
    rw [Nat.div_mul_right_comm (Nat.gcd_dvd_left a d) d, Nat.mul_div_assoc a (Nat.gcd_dvd_right a d)]
  rw [hS, Nat.one_mul, Nat.one_mul] at h3
  have hk : 0 < D / ((a / Nat.gcd a d) * d) := Nat.div_pos (Nat.le_of_dvd hD h1) h2
  have hLk : (a / Nat.gcd a d) * d * (D / ((a / Nat.gcd a d) * d)) = D := Nat.mul_div_cancel' h1
  have hB : 0 < d / Nat.gcd a d := Nat.div_pos (Nat.le_of_dvd hd (Nat.gcd_dvd_right _ _)) hG
  have hLD := Nat.le_of_dvd hD h1
  have hg2 : Nat.gcd (n0 * (d / Nat.gcd a d) + a / Nat.gcd a d) ((a / Nat.gcd a d) * d) * (D / ((a / Nat.gcd a d) * d)) = Nat.gcd (S + D / d) D := by
    rw [← Nat.gcd_mul_right, h3, hLk]
  refine ⟨Nat.gcd a d, (a / Nat.gcd a d) * d, a / Nat.gcd a d, d / Nat.gcd a d, n0 * (d / Nat.gcd a d) + a / Nat.gcd a d, Nat.gcd (n0 * (d / Nat.gcd a d) + a / Nat.gcd a d) ((a / Nat.gcd a d) * d), ⟨l10Gcd_val _ _, ?_, ?_, ?_, ?_⟩, ⟨?_, ?_, l10Gcd_val _ _, ?_, ?_⟩, hG, Nat.gcd_pos_of_pos_right _ h2, ⟨ha, hle⟩, ⟨h2, hLD⟩, Nat.le_mul_of_pos_right _ hd, ?_, Nat.le_add_right _ _, fun hs => ?_⟩
  · rw [← Int.ofNat_tdiv]
  · rw [Int.natCast_mul]
  · rw [← Int.ofNat_tdiv, e3, Nat.mul_div_cancel_left _ ha]
  · rw [← Int.ofNat_tdiv, Nat.mul_div_cancel _ hd]
  · rw [Int.natCast_mul]
  · rw [Int.one_mul, Int.natCast_add, Int.natCast_mul]
  · rw [← Int.ofNat_tdiv, ← Nat.mul_div_mul_right _ _ hk, h3, hg2]
  · rw [← Int.ofNat_tdiv, ← Nat.mul_div_mul_right _ _ hk, hLk, hg2]
  · rw [e3]; exact Nat.le_mul_of_pos_left _ ha
  · refine Nat.le_of_mul_le_mul_right ?_ hk
    rw [h3, hLk]; exact hs
theorem AddOk.rng {s : Share} {num den : Int} (h : AddOk s num den) :
    (0 < s.den ∧ s.den ≤ 9223372036854775807) ∧ (0 < den ∧ den ≤ 9223372036854775807) ∧ 0 < l10Gcd s.den den ∧ (0 ≤ s.den.tdiv (l10Gcd s.den den) ∧ s.den.tdiv (l10Gcd s.den den) ≤ 9223372036854775807) ∧
    (0 ≤ (s.den.tdiv (l10Gcd s.den den)) * den ∧ (s.den.tdiv (l10Gcd s.den den)) * den ≤ 9223372036854775807) ∧
    (0 ≤ ((s.den.tdiv (l10Gcd s.den den)) * den).tdiv s.den ∧ ((s.den.tdiv (l10Gcd s.den den)) * den).tdiv s.den ≤ 9223372036854775807) ∧
    (0 ≤ s.num * (((s.den.tdiv (l10Gcd s.den den)) * den).tdiv s.den) ∧ s.num * (((s.den.tdiv (l10Gcd s.den den)) * den).tdiv s.den) ≤ 9223372036854775807) ∧
    (0 ≤ ((s.den.tdiv (l10Gcd s.den den)) * den).tdiv den ∧ ((s.den.tdiv (l10Gcd s.den den)) * den).tdiv den ≤ 9223372036854775807) ∧
    (0 ≤ num * (((s.den.tdiv (l10Gcd s.den den)) * den).tdiv den) ∧ num * (((s.den.tdiv (l10Gcd s.den den)) * den).tdiv den) ≤ 9223372036854775807) ∧
    (0 ≤ (s.num * (((s.den.tdiv (l10Gcd s.den den)) * den).tdiv s.den)) + (num * (((s.den.tdiv (l10Gcd s.den den)) * den).tdiv den)) ∧ (s.num * (((s.den.tdiv (l10Gcd s.den den)) * den).tdiv s.den)) + (num * (((s.den.tdiv (l10Gcd s.den den)) * den).tdiv den)) ≤ 9223372036854775807) ∧
    0 < l10Gcd ((s.num * (((s.den.tdiv (l10Gcd s.den den)) * den).tdiv s.den)) + (num * (((s.den.tdiv (l10Gcd s.den den)) * den).tdiv den))) ((s.den.tdiv (l10Gcd s.den den)) * den) ∧
    (0 ≤ ((s.num * (((s.den.tdiv (l10Gcd s.den den)) * den).tdiv s.den)) + (num * (((s.den.tdiv (l10Gcd s.den den)) * den).tdiv den))).tdiv (l10Gcd ((s.num * (((s.den.tdiv (l10Gcd s.den den)) * den).tdiv s.den)) + (num * (((s.den.tdiv (l10Gcd s.den den)) * den).tdiv den))) ((s.den.tdiv (l10Gcd s.den den)) * den)) ∧ ((s.num * (((s.den.tdiv (l10Gcd s.den den)) * den).tdiv s.den)) + (num * (((s.den.tdiv (l10Gcd s.den den)) * den).tdiv den))).tdiv (l10Gcd ((s.num * (((s.den.tdiv (l10Gcd s.den den)) * den).tdiv s.den)) + (num * (((s.den.tdiv (l10Gcd s.den den)) * den).tdiv den))) ((s.den.tdiv (l10Gcd s.den den)) * den)) ≤ 9223372036854775807) ∧
    (0 ≤ ((s.den.tdiv (l10Gcd s.den den)) * den).tdiv (l10Gcd ((s.num * (((s.den.tdiv (l10Gcd s.den den)) * den).tdiv s.den)) + (num * (((s.den.tdiv (l10Gcd s.den den)) * den).tdiv den))) ((s.den.tdiv (l10Gcd s.den den)) * den)) ∧ ((s.den.tdiv (l10Gcd s.den den)) * den).tdiv (l10Gcd ((s.num * (((s.den.tdiv (l10Gcd s.den den)) * den).tdiv s.den)) + (num * (((s.den.tdiv (l10Gcd s.den den)) * den).tdiv den))) ((s.den.tdiv (l10Gcd s.den den)) * den)) ≤ 9223372036854775807) := by
  obtain ⟨rfl, D, S, d, ⟨rfl, hd, hdv⟩, ⟨e1, e2⟩, ⟨hD, hM⟩, hs⟩ := h
  obtain ⟨G, L, A, B, N, g2, ⟨a1, a2, a3, a4, a5⟩, ⟨b1, b2, b3, b4, b5⟩, c1, c2, c3, c4, c5, c6, c7, c8⟩ := add_core (S := S) hD hd hdv
  rw [e1, e2, a1, a2, a3, a4, a5, b2, b3, b4, b5, b1, Int.one_mul]
  have hdD := Nat.le_of_dvd hD hdv
  have c9 := c8 hs
  have d1 := Nat.div_le_self D (Nat.gcd (S + D / d) D)
  have d2 := Nat.div_le_self (S + D / d) (Nat.gcd (S + D / d) D)
  revert d1 d2 c3 c7
  generalize (S + D / d) / Nat.gcd (S + D / d) D = p1
  generalize D / Nat.gcd (S + D / d) D = p2
  generalize D / Nat.gcd S D = p3
  generalize S / Nat.gcd S D * B = p4
  intro d1 d2 c3 c7
  omega
end Go.Proofs.Ytmefknjcgdbceaa
