import Derived.Test.YtaooopgdcneohabVS10
set_option maxHeartbeats 4000000
set_option linter.unusedSimpArgs false
set_option linter.unusedVariables false
namespace Go.Proofs.Ytaooopgdcneohab
open Go Go.Lite Go.Proofs
/-! ### The chosen ones in their order -/
theorem elder_tot (f : Family) (x y : Int) (h1 : implElder f x y = false) (h2 : implElder f y x = false) : x = y := by
  simp only [implElder, Bool.or_eq_false_iff, Bool.and_eq_false_iff, decide_eq_false_iff_not] at *
  omega
/-- In order of age. -/
def ByAge (f : Family) (l : List Int) : Prop := l.Pairwise fun x y => implElder f y x = false
theorem byAge_unique {f : Family} {l m : List Int} (h1 : ByAge f l) (h2 : ByAge f m) (hp : l.Perm m) : l = m :=
  hp.eq_of_pairwise (fun a b _ _ k1 k2 => elder_tot f a b k2 k1) h1 h2
theorem slice_byAge (f : Family) (l : List Int) (h : l.length < 50) : ByAge f (bif decide (2 ≤ l.length) then (sliceE (SrtE.mk f l) ()) else (sliceZ (SrtZ.mk f l) ())) ∧ (bif decide (2 ≤ l.length) then (sliceE (SrtE.mk f l) ()) else (sliceZ (SrtZ.mk f l) ())).Perm l := by
  cases hc : decide (2 ≤ l.length) with
  | true =>
    have hs := pdqE_sorted ⟨f, l⟩ (bitsLen l.length) h
    have e : ((SrtE.mk f l).l.length : Int) = ((pdqE ⟨f, l⟩ 0 (SrtE.mk f l).l.length (bitsLen l.length)).length : Int) := by rw [hs.2.length_eq]
    have key : ∀ (r : List Int) (n : Int), n = (r.length : Int) → Srt (implElder f) 0 n r → ByAge f r := fun r n e h => by subst e; exact Srt.pairwise h
    exact ⟨key _ _ e hs.1, hs.2⟩
  | false =>
    have hc := of_decide_eq_false hc
    have e : sliceZ (SrtZ.mk f l) () = l := rfl
    refine ⟨?_, by rw [cond_false, e]⟩
    rw [cond_false, e]
    match l, hc with
    | [], _ => exact List.Pairwise.nil
    | [x], _ => exact List.pairwise_singleton _ _
    | _ :: _ :: _, hc => exact absurd (by simp) hc
/-! ### Children in the order of age -/
theorem l1Elder_eq (f : Family) (a b : Int) : l1Elder f a b = implElder f a b := rfl
def isKid (f : Family) (p : Int) (c : Nat) : Bool := (decide ((f.people.getD c default).father = p)) || (decide ((f.people.getD c default).mother = p))
def kidList (f : Family) (p : Int) (n : Nat) : List Int := ((List.range n).filter (isKid f p)).map fun (c : Nat) => (c : Int)
theorem kidList_succ (f : Family) (p : Int) (n : Nat) : kidList f p (n + 1) = kidList f p n ++ (if isKid f p n then [(n : Int)] else []) := by
  unfold kidList
  rw [List.range_succ, List.filter_append, List.map_append]
  congr 1
  cases h : isKid f p n <;> simp [h]
theorem kidList_mem {f : Family} {p y : Int} {n : Nat} (h : y ∈ kidList f p n) : 0 ≤ y ∧ y < n := by
  unfold kidList at h
  obtain ⟨c, h1, h2⟩ := List.mem_map.1 h
  have := List.mem_range.1 (List.mem_filter.1 h1).1
  omega
theorem kidList_len (f : Family) (p : Int) (n : Nat) : (kidList f p n).length ≤ n := by
  unfold kidList
  rw [List.length_map]
  exact Nat.le_trans (List.length_filter_le _ _) (by simp)
/-- What l1ByAge leaves. -/
theorem l1ByAge_split (f : Family) (l : List Int) (p : Int) : ∃ a b, l = a ++ b ∧ l1ByAge f l p = a ++ p :: b ∧ (∀ q ∈ a, implElder f p q = false) ∧ (b = [] ∨ ∃ c t, b = c :: t ∧ implElder f p c = true) := by
  unfold l1ByAge
  refine loopN_to (fun i (v : List Int × Bool) => i ≤ l.length ∧ ((v.2 = false ∧ v.1 = l.take i ∧ ∀ q ∈ v.1, implElder f p q = false) ∨ (v.2 = true ∧ ∃ a c t, l.take i = a ++ c :: t ∧ v.1 = a ++ p :: c :: t ∧ (∀ q ∈ a, implElder f p q = false) ∧ implElder f p c = true))) (fun (r : List Int) => ∃ a b, l = a ++ b ∧ r = a ++ p :: b ∧ (∀ q ∈ a, implElder f p q = false) ∧ (b = [] ∨ ∃ c t, b = c :: t ∧ implElder f p c = true)) ⟨Nat.zero_le _, .inl ⟨rfl, by simp, by simp⟩⟩ (fun i v next hi hv hn => ?_) (fun v hv => ?_)
  · have e : l.take (i + 1) = l.take i ++ [l.getD i default] := by
      rw [List.take_add_one, List.getD_eq_getElem?_getD, List.getElem?_eq_getElem hi]; rfl
    obtain ⟨w, d⟩ := v
    obtain ⟨h1, h2⟩ := hv
    refine cond_both (p := fun (r : List Int) => ∃ a b, l = a ++ b ∧ r = a ++ p :: b ∧ (∀ q ∈ a, implElder f p q = false) ∧ (b = [] ∨ ∃ c t, b = c :: t ∧ implElder f p c = true)) (fun c => hn _ ⟨hi, ?_⟩) (fun c => hn _ ⟨hi, ?_⟩)
    · simp only [Bool.and_eq_true, not_t_iff] at c
      rcases h2 with ⟨_, h3, h4⟩ | ⟨h3, _⟩
      · simp only at h3 h4
        refine .inr ⟨rfl, w, l.getD i default, [], by rw [e, h3], by simp, h4, c.2⟩
      · exact absurd h3 (by simp [c.1])
    · rcases h2 with ⟨h3, h4, h5⟩ | ⟨h3, a, x, t, h4, h5, h6, h7⟩
      · simp only at h3 h4 h5
        subst h3
        simp only [Bool.not_false, Bool.true_and] at c
        refine .inl ⟨rfl, by simp only [h4, e], fun q hq => ?_⟩
        rcases List.mem_append.1 hq with hq | hq
        · exact h5 q hq
        · rw [List.mem_singleton.1 hq]; exact c
      · simp only at h3 h5
        refine .inr ⟨h3, a, x, t ++ [l.getD i default], by rw [e, h4]; simp, by simp only [h5]; simp, h6, h7⟩
  · have e : l.take l.length = l := List.take_length
    obtain ⟨w, d⟩ := v
    rw [e] at hv
    rcases hv.2 with ⟨h3, h4, h5⟩ | ⟨h3, a, x, t, h4, h5, h6, h7⟩
    · simp only at h3 h4 h5
      subst h3
      exact ⟨w, [], by simp [h4], by simp, h5, .inl rfl⟩
    · simp only at h3 h5
      subst h3
      exact ⟨a, x :: t, h4, h5, h6, .inr ⟨x, t, rfl, h7⟩⟩
theorem byAge_ins {f : Family} {l : List Int} (p : Int) (h : ByAge f l) : ByAge f (l1ByAge f l p) ∧ (l1ByAge f l p).Perm (l ++ [p]) := by
  have hR := elder_swo f
  obtain ⟨a, b, h1, h2, h3, h4⟩ := l1ByAge_split f l p
  rw [h2, h1]
  unfold ByAge at h ⊢
  rw [h1, List.pairwise_append] at h
  refine ⟨List.pairwise_append.2 ⟨h.1, List.pairwise_cons.2 ⟨fun y hy => ?_, h.2.1⟩, fun x hx y hy => ?_⟩, ?_⟩
  · rcases h4 with h4 | ⟨c, t, h4, h5⟩
    · rw [h4] at hy; cases hy
    · rw [h4] at hy h
      have h6 := (List.pairwise_cons.1 h.2.1).1
      rcases List.mem_cons.1 hy with hy | hy
      · rw [hy]; exact hR.asym _ _ h5
      · exact hR.ntr _ _ _ (h6 y hy) (hR.asym _ _ h5)
  · rcases List.mem_cons.1 hy with hy | hy
    · rw [hy]; exact h3 x hx
    · exact h.2.2 x hx y hy
  · rw [List.append_assoc]
    exact List.Perm.append_left a (List.perm_append_singleton p b).symm
theorem l1Children_age (f : Family) (p : Int) : ByAge f (l1Children f p) ∧ (l1Children f p).Perm (kidList f p f.people.length) := by
  unfold l1Children
  refine loopN_to (fun i (v : List Int) => ByAge f v ∧ v.Perm (kidList f p i)) (fun (r : List Int) => ByAge f r ∧ r.Perm (kidList f p f.people.length)) ⟨List.Pairwise.nil, .refl _⟩ (fun i v next hi hv hn => ?_) (fun v hv => hv)
  refine cond_both (p := fun (r : List Int) => ByAge f r ∧ r.Perm (kidList f p f.people.length)) (fun c => hn _ ?_) (fun c => hn _ ?_)
  · have h := byAge_ins (i : Int) hv.1
    refine ⟨h.1, ?_⟩
    rw [kidList_succ, if_pos (show isKid f p i = true from c)]
    exact h.2.trans (hv.2.append_right _)
  · refine ⟨hv.1, ?_⟩
    rw [kidList_succ, if_neg (by rw [show isKid f p i = false from c]; simp), List.append_nil]
    exact hv.2
theorem implKids_age (f : Family) (p : Int) (hf : f.people.length ≤ 40) : ByAge f (implKids f p) ∧ (implKids f p).Perm (kidList f p f.people.length) := by
  unfold implKids implChosen
  refine loopN_to (fun i (v : List Int) => v = kidList f p i) (fun (r : List Int) => ByAge f r ∧ r.Perm (kidList f p f.people.length)) rfl (fun i v next hi hv hn => ?_) (fun v hv => ?_)
  · refine cond_both (p := fun (r : List Int) => ByAge f r ∧ r.Perm (kidList f p f.people.length)) (fun c => hn _ ?_) (fun c => hn _ ?_)
    · rw [hv, kidList_succ, if_pos (show isKid f p i = true from c)]
    · rw [hv, kidList_succ, if_neg (by rw [show isKid f p i = false from c]; simp), List.append_nil]
  · have h := slice_byAge f v (by rw [hv]; have := kidList_len f p f.people.length; omega)
    rw [hv] at h
    revert h
    subst hv
    exact fun h => h
theorem implKids_eq (f : Family) (p : Int) (hf : f.people.length ≤ 40) : implKids f p = l1Children f p := by
  have h1 := implKids_age f p hf
  have h2 := l1Children_age f p
  exact byAge_unique h1.1 h2.1 (h1.2.trans h2.2.symm)
theorem l1Children_okl (f : Family) (p : Int) : (∀ c ∈ l1Children f p, 0 ≤ c ∧ c < f.people.length) ∧ (l1Children f p).length ≤ f.people.length :=
  ⟨fun c hc => kidList_mem ((l1Children_age f p).2.mem_iff.1 hc), l1Children_len f p⟩
theorem implKids_ok (f : Family) (p : Int) (hf : f.people.length ≤ 40) : (∀ c ∈ implKids f p, 0 ≤ c ∧ c < f.people.length) ∧ (implKids f p).length ≤ f.people.length := by
  rw [implKids_eq f p hf]; exact l1Children_okl f p
end Go.Proofs.Ytaooopgdcneohab
