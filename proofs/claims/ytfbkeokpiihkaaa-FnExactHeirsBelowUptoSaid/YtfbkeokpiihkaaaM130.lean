import Derived.Test.YtfbkeokpiihkaaaVS11
set_option maxHeartbeats 4000000
set_option linter.unusedSimpArgs false
set_option linter.unusedVariables false
namespace Go.Proofs.Ytfbkeokpiihkaaa
open Go Go.Lite Go.Proofs
/-! ### Children in the order of a custom -/
def ofSex (f : Family) (s : Int) (c : Int) : Bool := decide ((f.people.getD c.toNat default).sex = s)
theorem take_snoc {α : Type} (l : List α) (d : α) {i : Nat} (hi : i < l.length) : l.take (i + 1) = l.take i ++ [l.getD i d] := by
  rw [List.take_add_one, List.getD_eq_getElem?_getD, List.getElem?_eq_getElem hi]; rfl
theorem filter_snoc {α : Type} (p : α → Bool) (l : List α) (x : α) : (l ++ [x]).filter p = l.filter p ++ (bif p x then [x] else []) := by
  rw [List.filter_append]
  cases h : p x <;> simp [h]
theorem kidsOf_val (s : Int) (l : List Int) (f : Family) : kidsOf s l f = l.filter (ofSex f s) := by
  unfold kidsOf
  refine loopN_to (fun i (v : List Int) => v = (l.take i).filter (ofSex f s)) (fun r => r = l.filter (ofSex f s)) (by simp) (fun i v next hi hv hn => ?_) (fun v hv => by rw [hv, List.take_length])
  refine cond_both (p := fun r => r = l.filter (ofSex f s)) (fun c => hn _ ?_) (fun c => hn _ ?_)
  · rw [take_snoc l default hi, filter_snoc, show ofSex f s (l.getD i default) = true from c, hv]; rfl
  · rw [take_snoc l default hi, filter_snoc, show ofSex f s (l.getD i default) = false from c, hv]; simp
def ofSex0 (f : Family) (s : Int) (c : Int) : Bool := decide (s = 0) || ofSex f s c
theorem l10Of_val (f : Family) (x : Custom) (l : List Int) (s : Int) : l10Of f x l s = bif x.youngest then (l.filter (ofSex0 f s)).reverse else l.filter (ofSex0 f s) := by
  unfold l10Of
  refine loopN_to (fun i (v : List Int) => v = bif x.youngest then ((l.take i).filter (ofSex0 f s)).reverse else (l.take i).filter (ofSex0 f s)) (fun r => r = bif x.youngest then (l.filter (ofSex0 f s)).reverse else l.filter (ofSex0 f s)) (by cases x.youngest <;> simp) (fun i v next hi hv hn => ?_) (fun v hv => by rw [hv, List.take_length])
  refine cond_both (p := fun r => r = bif x.youngest then (l.filter (ofSex0 f s)).reverse else l.filter (ofSex0 f s)) (fun c => hn _ ?_) (fun c => ?_)
  · have e : ofSex0 f s (l.getD i default) = false := by
      simp only [Bool.and_eq_true, Bool.not_eq_true', decide_eq_false_iff_not, decide_eq_true_eq] at c
      simp only [ofSex0, ofSex, Bool.or_eq_false_iff, decide_eq_false_iff_not]
      exact ⟨c.1, c.2⟩
    rw [take_snoc l default hi, filter_snoc, e, hv]
    cases x.youngest <;> simp
  · have e : ofSex0 f s (l.getD i default) = true := by
      simp only [ofSex0, ofSex, Bool.or_eq_true, decide_eq_true_eq]
      simp only [Bool.and_eq_false_iff, Bool.not_eq_false', decide_eq_true_eq, decide_eq_false_iff_not] at c
      omega
    refine cond_both (p := fun r => r = bif x.youngest then (l.filter (ofSex0 f s)).reverse else l.filter (ofSex0 f s)) (fun y => hn _ ?_) (fun y => hn _ ?_)
    · rw [take_snoc l default hi, filter_snoc, e, hv, y]; simp
    · rw [take_snoc l default hi, filter_snoc, e, hv, y]; simp
theorem ext_getD' {l m : List Int} (h : l.length = m.length) (hk : ∀ k, k < l.length → l.getD k default = m.getD k default) : l = m := by
  refine List.ext_getElem h fun k h1 h2 => ?_
  have := hk k h1
  rw [List.getD_eq_getElem?_getD, List.getD_eq_getElem?_getD, List.getElem?_eq_getElem h1, List.getElem?_eq_getElem h2] at this
  exact this
theorem getD_rev (l : List Int) {k : Nat} (h : k < l.length) : l.reverse.getD k default = l.getD (l.length - 1 - k) default := by
  rw [List.getD_eq_getElem?_getD, List.getD_eq_getElem?_getD, List.getElem?_eq_getElem (by simpa using h), List.getElem?_eq_getElem (by omega), List.getElem_reverse]
theorem rev_loop (K : List Int → List Int) (l0 : List Int) (f : Nat) (hf : f = ((((l0.length : Nat) : Int) - 1 - (0) + 2).toNat + 1)) : loopW (fun (v1 : Int × Int × (List Int)) next => bif (decide (v1.1 < v1.2.1)) then (next (v1.1 + 1, v1.2.1 - 1, ((v1.2.2.set v1.1.toNat (v1.2.2.getD v1.2.1.toNat default)).set v1.2.1.toNat (v1.2.2.getD v1.1.toNat default)))) else (K v1.2.2)) f (0, (((l0.length : Nat) : Int) - 1), l0) = K l0.reverse := by
  subst hf
  refine loopW_to (fun v => (0 ≤ v.1 ∧ v.1 + v.2.1 = (l0.length : Int) - 1 ∧ v.1 ≤ v.2.1 + 2) ∧ v.2.2.length = l0.length ∧ ∀ k : Nat, k < l0.length → v.2.2.getD k default = if ((k : Int) < v.1 ∨ v.2.1 < (k : Int)) then l0.getD (l0.length - 1 - k) default else l0.getD k default) (fun v => (v.2.1 - v.1 + 2).toNat) (fun r => r = K l0.reverse) (fun v next hv hn => ?_) _ _ (by (try dsimp only); omega) ⟨by (try dsimp only); omega, rfl, fun k hk => (if_neg (by (try dsimp only); omega)).symm⟩
  obtain ⟨hb, hl, hk⟩ := hv
  cases hc : decide (v.1 < v.2.1) with
  | false =>
    have hc := of_decide_eq_false hc
    refine congrArg K (ext_getD' (by simp [hl]) fun k h => ?_)
    rw [hk k (by omega), getD_rev l0 (by omega)]
    by_cases e : (k : Int) < v.1 ∨ v.2.1 < (k : Int)
    · rw [if_pos e]
    · rw [if_neg e]
      congr 1; omega
  | true =>
    have hc := of_decide_eq_true hc
    refine hn _ ⟨by dsimp only; omega, by simp [hl], fun k h => ?_⟩ (by dsimp only; omega)
    dsimp only
    simp only [getD_set, List.length_set, hl]
    have h1 := hk v.1.toNat (by omega)
    have h2 := hk v.2.1.toNat (by omega)
    rw [if_neg (by omega)] at h1
    rw [if_neg (by omega)] at h2
    by_cases e1 : k = v.2.1.toNat
    · rw [if_pos (by omega), h1, if_pos (by omega)]; congr 1; omega
    · rw [if_neg (by omega)]
      by_cases e2 : k = v.1.toNat
      · rw [if_pos (by omega), h2, if_pos (by omega)]; congr 1; omega
      · rw [if_neg (by omega), hk k h]
        by_cases e3 : (k : Int) < v.1 ∨ v.2.1 < (k : Int)
        · rw [if_pos e3, if_pos (by omega)]
        · rw [if_neg e3, if_neg (by omega)]
theorem implOrder_val (f : Family) (x : Custom) (p : Int) (hf : f.people.length ≤ 40) : implOrder f x p = l10Children f x p := by
  have key : ∀ l : List Int, l = (bif x.youngest then (l1Children f p).reverse else l1Children f p) → (bif (decide (x.prefer = 1)) then ((kidsOf 1 l f) ++ (kidsOf 2 l f)) else (bif (decide (x.prefer = 2)) then ((kidsOf 2 l f) ++ (kidsOf 1 l f)) else (bif (decide (x.prefer = 3)) then (kidsOf 1 l f) else (bif (decide (x.prefer = 4)) then (kidsOf 2 l f) else l)))) = l10Children f x p := by
    intro l hl
    unfold l10Children
    have h0 : l = l10Of f x (l1Children f p) 0 := by
      have e : (l1Children f p).filter (ofSex0 f 0) = l1Children f p := List.filter_eq_self.2 fun c _ => by simp [ofSex0]
      rw [l10Of_val, e]; exact hl
    have hs : ∀ s : Int, s ≠ 0 → kidsOf s l f = l10Of f x (l1Children f p) s := fun s h => by
      have e : ofSex0 f s = ofSex f s := by funext c; simp [ofSex0, h]
      rw [kidsOf_val, l10Of_val, e, hl]
      cases x.youngest
      · rfl
      · simp [List.filter_reverse]
    rw [hs 1 (by decide), hs 2 (by decide), ← h0]
  unfold implOrder jn
  rw [implKids_eq f p hf]
  cases hy : x.youngest with
  | true =>
    refine Eq.trans (rev_loop (fun j1 => bif (decide (x.prefer = 1)) then ((kidsOf 1 j1 f) ++ (kidsOf 2 j1 f)) else (bif (decide (x.prefer = 2)) then ((kidsOf 2 j1 f) ++ (kidsOf 1 j1 f)) else (bif (decide (x.prefer = 3)) then (kidsOf 1 j1 f) else (bif (decide (x.prefer = 4)) then (kidsOf 2 j1 f) else j1)))) _ _ rfl) ?_
    exact key _ (by rw [hy]; rfl)
  | false => exact key _ (by rw [hy]; rfl)
theorem has1_eq (x : Family) (p : Int) : implHas x [p] = l1Has x p := by
  rw [Bool.eq_iff_iff, implHas1, l1Has_iff]; exact and_comm
theorem ord_pre {x : Family} {p : Int} {c : Bool} (h : (c || (!(l1Has x p))) = false) : (specIsFamily x = true ∧ (x.people.length ≤ 40 ∧ x.unions.length ≤ 60)) ∧ 0 ≤ p ∧ p < x.people.length := by
  simp only [or_f_iff, not_f_iff, l1Has_iff] at h
  exact ⟨⟨h.2.2, fam_n h.2.2⟩, h.2.1⟩
theorem ord_pre2 {x : Family} {p : Int} {c : Bool} (h : ((!(implHas x [p])) || c) = false) : (specIsFamily x = true ∧ (x.people.length ≤ 40 ∧ x.unions.length ≤ 60)) ∧ 0 ≤ p ∧ p < x.people.length := by
  rw [has1_eq, Bool.or_comm] at h; exact ord_pre h
def C48 (R : Bool) : LV × List (Nat × BC) := (.bool R, [])
def specIsCustom (x0 : Custom) : Bool := l1In x0.prefer 0 4
def A48 (x0 : Custom) : Ann := .reg 2 [] [(1002, k79 x0.prefer 0 4)] [2] [] [] [] [] [0] (rt [] (C48 (l1In x0.prefer 0 4)))
theorem ok_spec_IsCustom (x0 : Custom) : FnT Try.prog 48 [.agg (cCustom false x0)] (C48 (specIsCustom x0)) := by
  have aux : ∀ R, specIsCustom x0 = R → slim (C48 R) (A48 x0) [] := by
    intro R hR
    refine rg ⟨trivial, trivial⟩ ?_
    exact congrArg C48 hR
  exact Fn.go 6 Try.func48 (by kernel_rfl) (by kernel_rfl) (by simp [C48, Frs, FrsL]) (A48 x0) (by kernel_rfl) (aux _ rfl)
def k48 (x0 : Custom) : Cl := (hres (C48 (specIsCustom x0)), k0 (ok_spec_IsCustom x0))
def C50 (R : Bool) : LV × List (Nat × BC) := (.bool R, [])
def implIsCustom (x0 : Custom) : Bool := (decide (0 ≤ x0.prefer)) && (decide (x0.prefer ≤ 4))
def A50 (x0 : Custom) : Ann := .reg 2 [] [] [2] [] [decide (0 ≤ x0.prefer)] [] [] [1, 1, 1] (rt [] (C50 ((decide (0 ≤ x0.prefer)) && (decide (x0.prefer ≤ 4)))))
theorem ok_impl_IsCustom (x0 : Custom) : FnT Try.prog 50 [.agg (cCustom false x0)] (C50 (implIsCustom x0)) := by
  have aux : ∀ R, implIsCustom x0 = R → slim (C50 R) (A50 x0) [] := by
    intro R hR
    refine rg trivial ?_
    exact congrArg C50 hR
  exact Fn.go 11 Try.func50 (by kernel_rfl) (by kernel_rfl) (by simp [C50, Frs, FrsL]) (A50 x0) (by kernel_rfl) (aux _ rfl)
def k50 (x0 : Custom) : Cl := (hres (C50 (implIsCustom x0)), k0 (ok_impl_IsCustom x0))
theorem isCustom_eq (x : Custom) : implIsCustom x = specIsCustom x := rfl
def C19 (R : Custom) : LV × List (Nat × BC) := (.agg [.int .i64 R.prefer, .bool R.youngest, .bool R.represent], [])
def laws_toCustom_m (x0 : Custom) : Custom := x0
def A19 (x0 : Custom) : Ann := r0 6 [2] [2] (rt [] (C19 x0))
theorem ok_laws_toCustom (x0 : Custom) : FnT Try.prog 19 [.agg (cCustom false x0)] (C19 x0) := by
  have aux : ∀ R, laws_toCustom_m x0 = R → slim (C19 R) (A19 x0) [] := by
    intro R hR
    refine rg trivial ?_
    exact congrArg C19 hR
  exact Fn.go 14 Try.func19 (by kernel_rfl) (by kernel_rfl) (by simp [C19, Frs, FrsL]) (A19 x0) (by kernel_rfl) (aux _ rfl)
def k19 (x0 : Custom) : Cl := (hres (C19 x0), k0 (ok_laws_toCustom x0))
/-! ### Children come behind their parents -/
theorem kid_lt {f : Family} (hf : specIsFamily f = true) {p c : Int} (hp : 0 ≤ p) (h : c ∈ l1Children f p) : p < c ∧ c < f.people.length := by
  obtain ⟨k, h1, h2, h3⟩ := (l1Children_mem f p c).1 h
  have h4 := fam_p hf h1
  have h5 := h4.fa; have h6 := h4.mo
  omega
theorem l10_mem {f : Family} {x : Custom} {p c : Int} (h : c ∈ l10Children f x p) : c ∈ l1Children f p := by
  have key : ∀ s, c ∈ l10Of f x (l1Children f p) s → c ∈ l1Children f p := fun s hc => by
    rw [l10Of_val] at hc
    cases hy : x.youngest <;> rw [hy] at hc <;> simp only [cond_true, cond_false, List.mem_reverse] at hc <;> exact (List.mem_filter.1 hc).1
  revert h
  unfold l10Children
  refine cond_both (p := fun r => c ∈ r → c ∈ l1Children f p) (fun _ h => ?_) (fun _ => ?_)
  · rcases List.mem_append.1 h with h | h <;> exact key _ h
  refine cond_both (p := fun r => c ∈ r → c ∈ l1Children f p) (fun _ h => ?_) (fun _ => ?_)
  · rcases List.mem_append.1 h with h | h <;> exact key _ h
  refine cond_both (p := fun r => c ∈ r → c ∈ l1Children f p) (fun _ h => key _ h) (fun _ => ?_)
  exact cond_both (p := fun r => c ∈ r → c ∈ l1Children f p) (fun _ h => key _ h) (fun _ h => key _ h)
theorem l10_lt {f : Family} (hf : specIsFamily f = true) {x : Custom} {p c : Int} (hp : 0 ≤ p) (h : c ∈ l10Children f x p) : p < c ∧ c < f.people.length := kid_lt hf hp (l10_mem h)
theorem l10_at {f : Family} (hf : specIsFamily f = true) {x : Custom} {p : Int} (hp : 0 ≤ p) {i : Nat} (h : i < (l10Children f x p).length) : p < (l10Children f x p).getD i default ∧ (l10Children f x p).getD i default < f.people.length := l10_lt hf hp (getD_mem h)
theorem ord_at {f : Family} (hf : specIsFamily f = true) {x : Custom} {p : Int} (hp : 0 ≤ p) {i : Nat} (h : i < (implOrder f x p).length) : p < (implOrder f x p).getD i default ∧ (implOrder f x p).getD i default < f.people.length := by
  rw [implOrder_val f x p (fam_n hf).1] at *; exact l10_at hf hp h
theorem l10_len (f : Family) (x : Custom) (p : Int) : (l10Children f x p).length ≤ 2 * f.people.length := by
  have h1 := l10Of_len f x (l1Children f p) 1
  have h2 := l10Of_len f x (l1Children f p) 2
  have h0 := l10Of_len f x (l1Children f p) 0
  have h3 := (l1Children_okl f p).2
  unfold l10Children
  repeat' refine cond_both (p := fun (r : List Int) => r.length ≤ 2 * f.people.length) (fun h => ?_) (fun h => ?_)
  all_goals (try simp only [List.length_append]); omega
theorem ord_len {f : Family} (hf : specIsFamily f = true) (x : Custom) (p : Int) : (implOrder f x p).length ≤ 80 := by
  have h := (fam_n hf).1
  rw [implOrder_val f x p h]
  have := l10_len f x p; omega
end Go.Proofs.Ytfbkeokpiihkaaa
