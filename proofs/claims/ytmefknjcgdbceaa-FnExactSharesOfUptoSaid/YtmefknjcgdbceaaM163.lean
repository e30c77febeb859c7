import Derived.Test.YtmefknjcgdbceaaVS39
set_option maxHeartbeats 4000000
set_option linter.unusedSimpArgs false
set_option linter.unusedVariables false
namespace Go.Proofs.Ytmefknjcgdbceaa
open Go Go.Lite Go.Proofs
/-! ### Both ways to divide an estate -/
theorem TkEq.uniq {f : Family} (hf : specIsFamily f = true) {p y : Int} {a b : List Bool} (ha : TkEq f p y a) (hb : TkEq f p y b) : a = b := by
  have key : ∀ m : Nat, ∀ q : Nat, q < f.people.length → f.people.length - q ≤ m → a.getD q default = b.getD q default := fun m => by
    induction m with
    | zero => intro q h1 h2; omega
    | succ m ih =>
      intro q h1 h2
      rw [ha.eq q h1, hb.eq q h1]
      congr 2
      rw [Bool.eq_iff_iff, List.any_eq_true, List.any_eq_true]
      have hk : ∀ c ∈ l1Children f (q : Int), a.getD c.toNat default = b.getD c.toNat default := fun c hc => by
        have := kid_lt hf (p := (q : Int)) (by omega) hc
        exact ih c.toNat (by omega) (by omega)
      constructor
      · rintro ⟨c, k1, k2⟩; exact ⟨c, k1, by rw [← hk c k1]; exact k2⟩
      · rintro ⟨c, k1, k2⟩; exact ⟨c, k1, by rw [hk c k1]; exact k2⟩
  refine List.ext_getElem (by rw [ha.len, hb.len]) fun k h1 h2 => ?_
  have := key f.people.length k (by rw [← ha.len]; exact h1) (by omega)
  rw [List.getD_eq_getElem?_getD, List.getD_eq_getElem?_getD, List.getElem?_eq_getElem h1, List.getElem?_eq_getElem h2] at this
  exact this
/-- The first takers on the way up. -/
inductive First (f : Family) (tk : List Bool) : List Int → List Int → Prop
  | nil : First f tk [] []
  | hit {g : List Int} : g ≠ [] → ((parG f g).filter fun c => tk.getD c.toNat default) ≠ [] → First f tk g ((parG f g).filter fun c => tk.getD c.toNat default)
  | step {g w : List Int} : g ≠ [] → ((parG f g).filter fun c => tk.getD c.toNat default) = [] → First f tk (parG f g) w → First f tk g w
theorem First.det {f : Family} {tk : List Bool} {g w : List Int} (h : First f tk g w) : ∀ {v : List Int}, First f tk g v → w = v := by
  induction h with
  | nil => intro v hv; cases hv with
    | nil => rfl
    | hit h _ => exact absurd rfl h
    | step h _ _ => exact absurd rfl h
  | hit h1 h2 => intro v hv; cases hv with
    | nil => exact absurd rfl h1
    | hit _ _ => rfl
    | step _ h3 _ => exact absurd h3 h2
  | step h1 h2 _ ih => intro v hv; cases hv with
    | nil => exact absurd rfl h1
    | hit _ h3 => exact absurd h2 h3
    | step _ _ h3 => exact ih h3
def Wit (f : Family) (tk : List Bool) (p : Int) (w : List Int) : Prop := (kidsT f tk p ≠ [] → w = kidsT f tk p) ∧ (kidsT f tk p = [] → First f tk [p] w)
theorem Wit.det {f : Family} {tk : List Bool} {p : Int} {w v : List Int} (h : Wit f tk p w) (h2 : Wit f tk p v) : w = v := by
  rcases Classical.em (kidsT f tk p = []) with e | e
  · exact (h.2 e).det (h2.2 e)
  · rw [h.1 e, h2.1 e]
def parGi (f : Family) (gen : List Int) (i : Nat) : List Int := List.map (fun (q : Nat) => (q : Int)) ((List.range i).filter fun (q : Nat) => gen.any fun g => isKid f (q : Int) g.toNat)
theorem parGi_succ (f : Family) (gen : List Int) (i : Nat) : parGi f gen (i + 1) = parGi f gen i ++ (bif gen.any fun g => isKid f (i : Int) g.toNat then [(i : Int)] else []) := by
  unfold parGi
  rw [List.range_succ, filter_snoc, List.map_append]
  congr 1
  cases gen.any fun g => isKid f (i : Int) g.toNat <;> rfl
theorem shares_res {f : Family} (hf : specIsFamily f = true) {p : Int} (hp : 0 ≤ p ∧ p < f.people.length) (y : Int) : ∃ tk w, TkEq f p y tk ∧ Wit f tk p w ∧ implShares f p y = Res f y tk w := by
  have hn := (fam_n hf).1
  unfold implShares
  rw [(implHas1 f p).2 ⟨hf, hp⟩, Bool.not_true, cond_false]
  generalize hQ : (fun (r : List Share) => ∃ tk w, TkEq f p y tk ∧ Wit f tk p w ∧ r = Res f y tk w) = Q
  show (fun (r : List Share) => ∃ tk w, TkEq f p y tk ∧ Wit f tk p w ∧ r = Res f y tk w) _
  rw [hQ]
  refine loopN_to (fun i (d : List Int) => d.length = f.people.length ∧ ∀ k : Nat, k < i → d.getD k default = 1) Q ⟨by simp, fun k hk => absurd hk (Nat.not_lt_zero _)⟩ (fun i d next hi hv hn => hn _ (ones_step hv hi)) fun d hd => ?_
  refine jn_to (fun (j : (List Bool) × (List Int) × (List Int)) => ShJ f p y j.1 j.2.1 j.2.2) Q (fun K hK => hK _ (ShJ.start hf p y hd rfl)) fun j1 hJ1 => ?_
  refine jn_to (fun (j : (List Int) × (List Bool) × (List Int) × (List Int)) => ShJ f p y j.2.1 j.2.2.1 j.2.2.2 ∧ j.1 = kidsT f j.2.1 p) Q (fun K hK => hK _ (ShJ.kids hf hJ1)) fun j2 hJ2 => ?_
  refine loopW_to (fun (v : (List Int) × (List Int) × (List Bool) × (List Int) × (List Int)) => ShI f p y v.1 v.2.1 v.2.2.1 v.2.2.2.1 v.2.2.2.2 ∧ (kidsT f v.2.2.1 p ≠ [] → v.1 = kidsT f v.2.2.1 p) ∧ (kidsT f v.2.2.1 p = [] → (v.1 ≠ [] → First f v.2.2.1 [p] v.1) ∧ (v.1 = [] → ∀ w, First f v.2.2.1 v.2.1 w → First f v.2.2.1 [p] w))) (fun v => gmu v.2.1) Q (fun v next hv hnx => ?_) _ _ (Nat.lt_succ_self _) ⟨ShI.start hf hp hJ2.1 hJ2.2, fun _ => hJ2.2, fun e => ⟨fun h => absurd (hJ2.2.trans e) h, fun _ w h => h⟩⟩
  obtain ⟨hI, hk, hk2⟩ := hv
  refine cond_both (p := Q) (fun c => ?_) (fun c => ?_)
  · have hw := who_nil c
    have hgen := gen_pos c
    refine loopN_to (fun i (l : List Int) => l = parGi f v.2.1 i) Q rfl (fun i l next3 hi hl hn3 => ?_) fun l hl => ?_
    · refine loopN_to (fun j (_ : Unit) => ∀ j' : Nat, j' < j → implParent f ((i : Nat) : Int) (v.2.1.getD j' default) = false) Q (fun j' h => absurd h (Nat.not_lt_zero _)) (fun j u next4 hj hu hn4 => ?_) fun u hu => hn3 _ ?_
      · refine cond_both (p := Q) (fun c4 => hn3 _ ?_) (fun c4 => hn4 _ fun j' hj' => ?_)
        · have : (v.2.1.any fun g => isKid f (i : Int) g.toNat) = true := List.any_eq_true.2 ⟨_, getD_mem hj, c4⟩
          rw [parGi_succ, this, hl]; rfl
        · rcases Nat.lt_or_ge j' j with h | h
          · exact hu j' h
          · have : j' = j := by omega
            rw [this]; exact c4
      · have : (v.2.1.any fun g => isKid f (i : Int) g.toNat) = false := by
          rw [List.any_eq_false]
          intro g hg
          obtain ⟨k, hk, e⟩ := mem_getD (d := default) hg
          have h9 := hu k hk
          rw [e] at h9
          show ¬ implParent f ((i : Nat) : Int) g = true
          rw [h9]; exact Bool.false_ne_true
        rw [parGi_succ, this, hl, cond_false, List.append_nil]
    · have hl2 : l = parG f v.2.1 := hl
      have hN : NextI f v.2.1 f.people.length l := by rw [hl2]; exact parG_next _
      have hne : v.2.1 ≠ [] := List.length_pos_iff.1 hgen
      have e1 : (kidsT f v.2.2.1 p) = [] := by
        rcases Classical.em (kidsT f v.2.2.1 p = []) with e | e
        · exact e
        · have := hk e; rw [hw] at this; exact absurd this.symm e
      have e2 : (taking (estate.mk f p y v.2.2.1 v.2.2.2.1 v.2.2.2.2) l) = ((parG f v.2.1).filter (fun c => v.2.2.1.getD c.toNat default), v.2.2.1, v.2.2.2.1, v.2.2.2.2) := by rw [taking_val, hl2]
      refine hnx _ ⟨ShI.next hf hI hw hN, ?_⟩ (NextI.dec hf (ShI.gr hI) hgen hN)
      dsimp only
      rw [e2]
      dsimp only
      refine ⟨fun h => absurd e1 h, fun _ => ⟨fun h => (hk2 e1).2 hw _ (.hit hne h), fun h w h3 => (hk2 e1).2 hw w (.step hne h ?_)⟩⟩
      rw [hl2] at h3
      exact h3
  · refine cond_both (p := Q) (fun c2 => ?_) (fun c2 => ?_)
    · have hpos := who_pos c2
      have hne : v.1 ≠ [] := List.length_pos_iff.1 hpos
      obtain ⟨h1, h2⟩ := hI
      obtain ⟨h3, e1, e2⟩ := h1
      have hmu : lmu f.people.length v.1 ≤ 81 := lmu_le.2 fun c hc => by have := (h2.wr c hc).1; omega
      obtain ⟨hD, hb, hsum, _⟩ := Res.sum hf h3 hne h2.wr h2.wlen h2.sum
      have hR0 := RepS.start hD f.people.length
      rw [← e1, ← e2] at hR0
      have hrep := ((give_sem 100).2 (estate.mk f p y v.2.2.1 v.2.2.2.1 v.2.2.2.2) v.1 1 (whole f y v.2.2.1 v.1.length) (List.replicate f.people.length 0) hf (fun c hc => (h2.wr c hc).1) (Nat.lt_of_le_of_lt hmu (by decide)) Nat.one_pos (by simp) hR0 (fun c hc r hr => (hb c hc r hr).1)).2
      rw [Nat.div_one] at hrep
      have hlen := (gS_len f y v.2.2.1 100).2 v.1 (whole f y v.2.2.1 v.1.length) (List.replicate f.people.length 0)
      rw [List.length_replicate] at hlen
      show Q (loopN _ _ _ 0 _)
      have hval := out_val hrep
      unfold divide
      refine (congrArg Q hval).mpr ?_
      rw [← hQ]
      refine ⟨v.2.2.1, v.1, h3, ⟨hk, fun e => (hk2 e).1 hne⟩, ?_⟩
      unfold Res
      rw [if_neg hne]
      show shOf _ (dS f y v.2.2.1 100 v.1 _ _) (dS f y v.2.2.1 100 v.1 (whole f y v.2.2.1 v.1.length) (List.replicate f.people.length 0)).length = _
      rw [hlen]
    · have hw : v.1 = [] := List.eq_nil_of_length_eq_zero (by have := of_decide_eq_false c2; omega)
      have hg : v.2.1 = [] := by
        rw [hw] at c
        have c3 : decide (0 < ((v.2.1.length : Nat) : Int)) = false := c
        exact List.eq_nil_of_length_eq_zero (by have := of_decide_eq_false c3; omega)
      obtain ⟨⟨h3, e1, e2⟩, h2⟩ := hI
      have hval := out_val (RepS.start (D := 1) Nat.one_pos f.people.length)
      rw [← e1, ← e2] at hval
      refine (congrArg Q hval).mpr ?_
      have e : shOf 1 (List.replicate f.people.length 0) (List.replicate f.people.length 0).length = [] := by
        unfold shOf
        rw [List.map_eq_nil_iff, List.filter_eq_nil_iff]
        intro k _
        rw [getD_rep]; split <;> simp
      rw [e, ← hQ]
      refine ⟨v.2.2.1, [], h3, ⟨fun h => ?_, fun h => (hk2 h).2 hw [] (by rw [hg]; exact .nil)⟩, ?_⟩
      · rw [← hk h, hw]
      · unfold Res; rw [if_pos rfl]
theorem spec_res {f : Family} (hf : specIsFamily f = true) {p : Int} (hp : 0 ≤ p ∧ p < f.people.length) (y : Int) : ∃ w, Wit f (l10Part f p y) p w ∧ specShares f p y = Res f y (l10Part f p y) w := by
  have hn := (fam_n hf).1
  have ht := l10Part_eq hf p y
  have h0 := ht.self hp
  have hc := l1Children_okl f p
  unfold specShares
  rw [(l1Has_iff f p).2 ⟨hp, hf⟩, Bool.not_true, cond_false]
  generalize hQ : (fun (r : List Share) => ∃ w, Wit f (l10Part f p y) p w ∧ r = Res f y (l10Part f p y) w) = Q
  show (fun (r : List Share) => ∃ w, Wit f (l10Part f p y) p w ∧ r = Res f y (l10Part f p y) w) _
  rw [hQ]
  revert ht h0 hQ
  generalize l10Part f p y = tk
  intro ht h0 hQ
  refine loopN_to (fun i (k : List Share) => RepZ i k) Q ⟨rfl, fun j hj => absurd hj (Nat.not_lt_zero _)⟩ (fun i k next hi hv hn => hn _ (kept_step hv)) fun k hk => ?_
  have hd0 := divide_first hf ht hc.1 (Nat.le_trans hc.2 hn) (who_down hf hp h0) hk
  refine jn_to (fun (j : List Share) => (kidsT f tk p = [] → RepZ f.people.length j) ∧ (kidsT f tk p ≠ [] → l10Kept j = Res f y tk (kidsT f tk p) ∧ Res f y tk (kidsT f tk p) ≠ [])) Q (fun K hK => hK _ ⟨hd0.2.2.1, hd0.2.2.2⟩) fun j1 hJ1 => ?_
  refine loopW_to (fun (v : (List Share) × (List Int)) => (∃ gen, v.2 = parG f gen ∧ gen ≠ [] ∧ (∀ g ∈ gen, (0 ≤ g ∧ g < f.people.length) ∧ tk.getD g.toNat default = false) ∧ RepZ f.people.length v.1 ∧ kidsT f tk p = [] ∧ ∀ w, First f tk gen w → First f tk [p] w) ∨ ∃ w, Wit f tk p w ∧ l10Kept v.1 = Res f y tk w ∧ Res f y tk w ≠ []) (fun v => gmu v.2) Q (fun v next hv hnx => ?_) _ _ (Nat.lt_succ_self _) ?_
  · refine cond_both (p := Q) (fun c => ?_) (fun c => ?_)
    · have c2 := kept_nil c
      rcases hv with ⟨gen, e, hg, hr, hz, hkk, hF⟩ | ⟨w, _, h1, h2⟩
      · have hup : ∀ c ∈ v.2, 0 ≤ c ∧ c < f.people.length := fun c hc => by rw [e] at hc; exact (parG_mem.1 hc).1
        have hlen : v.2.length ≤ 40 := by rw [e]; exact Nat.le_trans (parG_next gen).2.2 hn
        have hs : (v.2.filter fun c => tk.getD c.toNat default).length + sN (wt0 f y tk) f.people.length ≤ pairs f := by rw [e]; exact up_sum hf hr
        have hd := divide_first hf ht hup hlen hs hz
        have hdec : gmu (l10Parents f v.2) < gmu v.2 := by
          rw [l10Parents_eq hf hup]; exact (parG_next v.2).dec hf hup c2.2
        have hne : v.2 ≠ [] := List.length_pos_iff.1 c2.2
        refine jn_to (fun (j : List Share) => ((v.2.filter fun c => tk.getD c.toNat default) = [] → RepZ f.people.length j) ∧ ((v.2.filter fun c => tk.getD c.toNat default) ≠ [] → l10Kept j = Res f y tk (v.2.filter fun c => tk.getD c.toNat default) ∧ Res f y tk (v.2.filter fun c => tk.getD c.toNat default) ≠ [])) Q (fun K hK => hK _ ⟨hd.2.2.1, hd.2.2.2⟩) fun j2 hJ2 => ?_
        refine hnx _ ?_ hdec
        rcases Classical.em ((v.2.filter fun c => tk.getD c.toNat default) = []) with e2 | e2
        · refine .inl ⟨v.2, l10Parents_eq hf hup, hne, fun g hg => ⟨hup g hg, filt_nil e2 g hg⟩, hJ2.1 e2, hkk, fun w h => hF w (.step hg ?_ ?_)⟩
          · rw [← e]; exact e2
          · rw [← e]; exact h
        · refine .inr ⟨_, ⟨fun h => absurd hkk h, fun _ => hF _ ?_⟩, hJ2.2 e2⟩
          rw [e] at e2 ⊢
          exact .hit hg e2
      · exact absurd (h1.symm.trans c2.1) h2
    · rcases hv with ⟨gen, e, hg, hr, hz, hkk, hF⟩ | ⟨w, h0, h1, h2⟩
      · have hk0 := kept_zero hz
        rw [hk0] at c ⊢
        have hup : v.2 = [] := by
          have c3 : decide (0 < ((v.2.length : Nat) : Int)) = false := c
          exact List.eq_nil_of_length_eq_zero (by have := of_decide_eq_false c3; omega)
        rw [← hQ]
        refine ⟨[], ⟨fun h => absurd hkk h, fun _ => hF [] (.step hg ?_ ?_)⟩, by unfold Res; rw [if_pos rfl]⟩
        · rw [← e, hup]; rfl
        · rw [← e, hup]; exact .nil
      · rw [← hQ]; exact ⟨w, h0, h1⟩
  · rcases Classical.em (kidsT f tk p = []) with e | e
    · exact .inl ⟨[p], l10Parents_eq hf (fun c hc => by rw [List.mem_singleton.1 hc]; exact hp), by simp, fun g hg => by rw [List.mem_singleton.1 hg]; exact ⟨hp, h0⟩, hJ1.1 e, e, fun w h => h⟩
    · exact .inr ⟨kidsT f tk p, ⟨fun _ => rfl, fun h => absurd h e⟩, hJ1.2 e⟩
theorem shares_eq (f : Family) (p y : Int) : implShares f p y = specShares f p y := by
  rcases Classical.em (specIsFamily f = true ∧ 0 ≤ p ∧ p < f.people.length) with h | h
  · obtain ⟨tk, w, h1, h2, h3⟩ := shares_res h.1 h.2 y
    obtain ⟨v, h4, h5⟩ := spec_res h.1 h.2 y
    have e := h1.uniq h.1 (l10Part_eq h.1 p y)
    subst e
    rw [h3, h5, h2.det h4]
  · have e1 : implHas f [p] = false := by
      cases c : implHas f [p]
      · rfl
      · exact absurd ((implHas1 f p).1 c) h
    have e2 : l1Has f p = false := by
      cases c : l1Has f p
      · rfl
      · exact absurd (And.comm.1 ((l1Has_iff f p).1 c)) h
    unfold implShares specShares
    rw [e1, e2]; rfl
theorem specShares_len (f : Family) (p y : Int) : (specShares f p y).length ≤ 40 := by
  rcases Classical.em (specIsFamily f = true ∧ 0 ≤ p ∧ p < f.people.length) with h | h
  · obtain ⟨v, h4, h5⟩ := spec_res h.1 h.2 y
    rw [h5]
    unfold Res
    split
    · simp
    · unfold shOf
      rw [List.length_map]
      exact Nat.le_trans (List.length_filter_le _ _) (by rw [List.length_range]; exact (fam_n h.1).1)
  · have e2 : l1Has f p = false := by
      cases c : l1Has f p
      · rfl
      · exact absurd (And.comm.1 ((l1Has_iff f p).1 c)) h
    unfold specShares
    rw [e2]; simp
end Go.Proofs.Ytmefknjcgdbceaa
