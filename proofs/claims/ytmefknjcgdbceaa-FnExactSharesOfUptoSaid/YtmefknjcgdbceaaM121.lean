import Derived.Test.YtmefknjcgdbceaaVS9
set_option maxHeartbeats 4000000
set_option linter.unusedSimpArgs false
set_option linter.unusedVariables false
namespace Go.Proofs.Ytmefknjcgdbceaa
open Go Go.Lite Go.Proofs
def C27 (R : Bool) : LV × List (Nat × BC) := (.bool R, [])
def implParent (x0 : Family) (x1 : Int) (x2 : Int) : Bool := (decide (((x0.people.getD x2.toNat default).father) = x1)) || (decide (((x0.people.getD x2.toNat default).mother) = x1))
def A27 (x0 : Family) (x1 : Int) (x2 : Int) : Ann := .reg 2 [] [] [6] [] [!(decide (((x0.people.getD x2.toNat default).father) = x1)), decide (((x0.people.getD x2.toNat default).father) = x1)] [pf (0 ≤ (x2 : Int) ∧ (x2 : Int) < ((x0.people.length : Nat) : Int)), gt (!(decide (((x0.people.getD x2.toNat default).father) = x1))) (pf (0 ≤ (x2 : Int) ∧ (x2 : Int) < ((x0.people.length : Nat) : Int)))] [] [0, 1, 1, 1, 4, 1, 1, 1, 1, 6] (rt [] (C27 ((decide (((x0.people.getD x2.toNat default).father) = x1)) || (decide (((x0.people.getD x2.toNat default).mother) = x1)))))
theorem ok_impl_isParent (x0 : Family) (x1 : Int) (x2 : Int) (h2 : 0 ≤ x2 ∧ x2 < x0.people.length) : FnT Try.prog 27 [.agg (cFamily false x0), .int .i64 x1, .int .i64 x2] (C27 (implParent x0 x1 x2)) := by
  have aux : ∀ R, implParent x0 x1 x2 = R → slim (C27 R) (A27 x0 x1 x2) [] := by
    intro R hR
    refine rg ⟨by trivial, by (intros; omega), trivial⟩ ?_
    exact congrArg C27 hR
  exact Fn.go 25 Try.func27 (by kernel_rfl) (by kernel_rfl) (by simp [C27, Frs, FrsL]) (A27 x0 x1 x2) (by kernel_rfl) (aux _ rfl)
def k27 (x0 : Family) (x1 : Int) (x2 : Int) : Cl := (hres (C27 (implParent x0 x1 x2)), k1 (ok_impl_isParent x0 x1 x2))
def C46 (R : Bool) : LV × List (Nat × BC) := (.bool R, [])
def kidP (x0 : Int) (x1 : Family) (x2 : Int) : Bool := implParent x1 x2 x0
def A46 (x0 : Int) (x1 : Family) (x2 : Int) : Ann := .reg 2 [] [(1003, k27 x1 x2 x0)] [4] [] [] [] [] [0] (rt [] (C46 (implParent x1 x2 x0)))
theorem ok_impl_childrenOf_1 (x0 : Int) (x1 : Family) (x2 : Int) (h0 : 0 ≤ x0 ∧ x0 < x1.people.length) : FnT Try.prog 46 [.int .i64 x0, .ep [.ro false 6 x1.people.length (rowOf (cPerson false) x1.people), .ro false 4 x1.unions.length (rowOf (cUnion false) x1.unions)] 0, .ep [.int .i64 x2] 0] (C46 (kidP x0 x1 x2)) := by
  have aux : ∀ R, kidP x0 x1 x2 = R → slim (C46 R) (A46 x0 x1 x2) [] := by
    intro R hR
    refine rg ⟨by trivial, trivial⟩ ?_
    exact congrArg C46 hR
  exact Fn.go 9 Try.func46 (by kernel_rfl) (by kernel_rfl) (by simp [C46, Frs, FrsL]) (A46 x0 x1 x2) (by kernel_rfl) (aux _ rfl)
def k46 (x0 : Int) (x1 : Family) (x2 : Int) : Cl := (hres (C46 (kidP x0 x1 x2)), k1 (ok_impl_childrenOf_1 x0 x1 x2))
def C45 (R : (List Int)) : LV × List (Nat × BC) := (.own 0, [(0, .arr 1 R.length (rowOf (cInt .i64) R))])
def implChosen (x0 : Family) (x1 : Family × Int) : (List Int) := loopN (fun i1 (v1 : (List Int)) next => bif (kidP ((i1 : Nat) : Int) x1.1 x1.2) then (next (v1 ++ [((i1 : Nat) : Int)])) else (next v1)) (fun (v1 : (List Int)) => bif (decide (2 ≤ v1.length)) then (sliceE (SrtE.mk x0 v1) ()) else (sliceZ (SrtZ.mk x0 v1) ())) x0.people.length 0 ([] : List Int)
def D45b1 (x0 : Family) (x1 : Family × Int) (i1 : Nat) (v1 : (List Int)) : Dl := ⟨[(10, .int .i64 ((i1 : Nat) : Int))], [(30500, .arr 1 v1.length (rowOf (cInt .i64) v1)), (5, .var [.own 30500])]⟩
def A45b1 (x0 : Family) (x1 : Family × Int) (i1 : Nat) (v1 : (List Int)) : Ann := r0 1 [1, 2, 4, 5, 9, 10, 11] [2, 5, 30500] (cn (decide (((i1 : Nat) : Int) < ((x0.people.length : Nat) : Int))) (.reg 2 [] [(1002, k46 ((i1 : Nat) : Int) x1.1 x1.2)] [1, 2, 4, 5, 6, 9, 10, 15] [2, 5, 30500] [] [] [] [0] (cn (kidP ((i1 : Nat) : Int) x1.1 x1.2) (.reg 1 [] [(2, bsC 18 (cInt .i64) ([((i1 : Nat) : Int)] : List Int)), (3, ap1 19 (cInt .i64) 8 v1 ((i1 : Nat) : Int))] [1, 2, 4, 5, 9, 10] [2, 5, 19] [] [] [] [0, 4] (r1 1 [1, 2, 4, 5, 9, 10] [2, 5, 19] [pf (inR .i64 (((i1 : Nat) : Int) + 1))] [0] (.next 0 [(30500, some 19)] (D45b1 x0 x1 (i1 + 1) (v1 ++ [((i1 : Nat) : Int)]))))) (r1 1 [1, 2, 4, 5, 9, 10] [2, 5, 30500] [pf (inR .i64 (((i1 : Nat) : Int) + 1))] [0] (.next 0 [(30500, some 30500)] (D45b1 x0 x1 (i1 + 1) v1))))) (.split (decide (2 ≤ v1.length)) (.reg 2 [] [(3, k61E 24 [30500, 2, 5] (SrtE.mk x0 v1) ())] [4] [30500] [] [] [] [0] (rt [(0, some 30500)] (C45 (sliceE (SrtE.mk x0 v1) ())))) (.reg 2 [] [(3, k61Z 24 [30500, 2, 5] (SrtZ.mk x0 v1) ())] [4] [30500] [] [] [] [0] (rt [(0, some 30500)] (C45 (sliceZ (SrtZ.mk x0 v1) ()))))))
def A45 (x0 : Family) (x1 : Family × Int) : Ann := r0 2 [1, 2, 4, 5] [2, 5] (r0 1 [1, 2, 4, 5, 9, 10] [2, 5] (lp (D45b1 x0 x1) [] [] [(30500, none)] (D45b1 x0 x1 0 ([] : List Int)) (A45b1 x0 x1)))
theorem ok_impl_chosen (x0 : Family) (x1 : Family × Int) (hf : x0.people.length ≤ 40) (he : x1.1 = x0) : FnT Try.prog 45 [.agg (cFamily false x0), .clo 46 [.ep [.ro false 6 x1.1.people.length (rowOf (cPerson false) x1.1.people), .ro false 4 x1.1.unions.length (rowOf (cUnion false) x1.1.unions)] 0, .ep [.int .i64 x1.2] 0]] (C45 (implChosen x0 x1)) := by
  have aux : ∀ R, implChosen x0 x1 = R → slim (C45 R) (A45 x0 x1) [] := by
    intro R hR
    refine rg trivial ?_
    refine rg trivial ?_
    revert hR; refine lN (fun i v => OkL x0 v ∧ v.length ≤ i) (by (exact ⟨fun c hc => absurd hc List.not_mem_nil, Nat.le_refl _⟩)) rfl fun i1 v1 F1 hn1 hI1 hR hK1 => ?_
    refine rg trivial ?_
    refine ⟨fun hc1 => ?_, fun hc1 => ?_⟩
    · have hii1 : i1 < x0.people.length := by have := of_decide_eq_true hc1; omega
      replace hR := loopN_step hR hii1
      refine rg ⟨by (rw [he]; omega), trivial⟩ ?_
      revert hR; refine cd (fun hc2 hR => ?_) fun hc2 hR => ?_
      ·
        refine rg ⟨trivial, by omega, trivial⟩ ?_
        refine rg ⟨by ( intros; simp only [inR]; omega), trivial⟩ ?_
        exact hK1 (v1 ++ [((i1 : Nat) : Int)]) hii1 (by (exact ⟨fun c hc => (by rcases List.mem_append.1 hc with hc | hc; exact hI1.1 c hc; have := List.mem_singleton.1 hc; omega), by rw [List.length_append]; simp; omega⟩)) hR
      ·
        refine rg ⟨by ( intros; simp only [inR]; omega), trivial⟩ ?_
        exact hK1 v1 hii1 (by (exact ⟨hI1.1, by omega⟩)) hR
    · obtain rfl : i1 = x0.people.length := by have := of_decide_eq_false hc1; omega
      replace hR := loopN_end hR (Nat.lt_irrefl _)
      revert hR; refine cd (fun hs3 hR => ?_) fun hs3 hR => ?_
      ·
        refine rg ⟨⟨by ( intros; simp only [inR]; omega), by (exact hI1.1), by (simp only [decide_eq_true_eq, decide_eq_false_iff_not] at *; omega)⟩, trivial⟩ ?_
        exact congrArg C45 hR
      ·
        refine rg ⟨by (simp only [decide_eq_true_eq, decide_eq_false_iff_not] at *; omega), trivial⟩ ?_
        exact congrArg C45 hR
  exact Fn.go 26 Try.func45 (by kernel_rfl) (by kernel_rfl) (by simp [C45, Frs, FrsL, FrsB, rowOf, cInt, cBool, cStr, cSl, FrsL_app, cPerson, cUnion, cFamily]) (A45 x0 x1) (by kernel_rfl) (aux _ rfl)
def k45 (x0 : Family) (x1 : Family × Int) : Cl := (hres (C45 (implChosen x0 x1)), k2 (ok_impl_chosen x0 x1))
def C26 (R : (List Int)) : LV × List (Nat × BC) := (.own 0, [(0, .arr 1 R.length (rowOf (cInt .i64) R))])
def implKids (x0 : Family) (x1 : Int) : (List Int) := implChosen x0 (x0, x1)
def A26 (x0 : Family) (x1 : Int) : Ann := .reg 2 [] [(1002, k45 x0 (x0, x1))] [4] [1007] [] [] [] [0] (rt [(0, some 1007)] (C26 (implChosen x0 (x0, x1))))
theorem ok_impl_childrenOf (x0 : Family) (x1 : Int) (hf : x0.people.length ≤ 40) : FnT Try.prog 26 [.agg (cFamily false x0), .int .i64 x1] (C26 (implKids x0 x1)) := by
  have aux : ∀ R, implKids x0 x1 = R → slim (C26 R) (A26 x0 x1) [] := by
    intro R hR
    refine rg ⟨⟨by trivial, by trivial⟩, trivial⟩ ?_
    exact congrArg C26 hR
  exact Fn.go 8 Try.func26 (by kernel_rfl) (by kernel_rfl) (by simp [C26, Frs, FrsL, FrsB, rowOf, cInt, cBool, cStr, cSl, FrsL_app, cPerson, cUnion, cFamily]) (A26 x0 x1) (by kernel_rfl) (aux _ rfl)
def k26 (x0 : Family) (x1 : Int) : Cl := (hres (C26 (implKids x0 x1)), k1 (ok_impl_childrenOf x0 x1))
/-! ### The chosen ones in their order -/
theorem elder_tot (f : Family) (x y : Int) (h1 : implElder f x y = false) (h2 : implElder f y x = false) : x = y := by
  simp only [implElder, Bool.or_eq_false_iff, Bool.and_eq_false_iff, decide_eq_false_iff_not] at *
  omega
/-- In order of age. -/
def ByAge (f : Family) (l : List Int) : Prop := l.Pairwise fun x y => implElder f y x = false
theorem byAge_unique {f : Family} {l m : List Int} (h1 : ByAge f l) (h2 : ByAge f m) (hp : l.Perm m) : l = m :=
  hp.eq_of_pairwise (fun a b _ _ k1 k2 => elder_tot f a b k2 k1) h1 h2
theorem slice_byAge (f : Family) (l : List Int) (h : l.length < 50) : ByAge f (bif decide (2 ≤ l.length) then (sliceE (SrtE.mk f l) ()) else (sliceZ (SrtZ.mk f l) ())) ∧ (bif decide (2 ≤ l.length) then (sliceE (SrtE.mk f l) ()) else (sliceZ (SrtZ.mk f l) ())).Perm l := by
  cases hc : decide (2 ≤ l.length) with
  | true =>
    have hs := pdqE_sorted ⟨f, l⟩ (bitsLen l.length) h
    have e : ((SrtE.mk f l).l.length : Int) = ((pdqE ⟨f, l⟩ 0 (SrtE.mk f l).l.length (bitsLen l.length)).length : Int) := by rw [hs.2.length_eq]
    have key : ∀ (r : List Int) (n : Int), n = (r.length : Int) → Srt (implElder f) 0 n r → ByAge f r := fun r n e h => by subst e; exact Srt.pairwise h
    exact ⟨key _ _ e hs.1, hs.2⟩
  | false =>
    have hc := of_decide_eq_false hc
    have e : sliceZ (SrtZ.mk f l) () = l := rfl
    refine ⟨?_, by rw [cond_false, e]⟩
    rw [cond_false, e]
    match l, hc with
    | [], _ => exact List.Pairwise.nil
    | [x], _ => exact List.pairwise_singleton _ _
    | _ :: _ :: _, hc => exact absurd (by simp) hc
def isKid (f : Family) (p : Int) (c : Nat) : Bool := (decide ((f.people.getD c default).father = p)) || (decide ((f.people.getD c default).mother = p))
def kidList (f : Family) (p : Int) (n : Nat) : List Int := ((List.range n).filter (isKid f p)).map fun (c : Nat) => (c : Int)
theorem kidList_succ (f : Family) (p : Int) (n : Nat) : kidList f p (n + 1) = kidList f p n ++ (if isKid f p n then [(n : Int)] else []) := by
  unfold kidList
  rw [List.range_succ, List.filter_append, List.map_append]
  congr 1
  cases h : isKid f p n <;> simp [h]
theorem kidList_mem {f : Family} {p y : Int} {n : Nat} (h : y ∈ kidList f p n) : 0 ≤ y ∧ y < n := by
  unfold kidList at h
  obtain ⟨c, h1, h2⟩ := List.mem_map.1 h
  have := List.mem_range.1 (List.mem_filter.1 h1).1
  omega
theorem kidList_len (f : Family) (p : Int) (n : Nat) : (kidList f p n).length ≤ n := by
  unfold kidList
  rw [List.length_map]
  exact Nat.le_trans (List.length_filter_le _ _) (by simp)
/-- What l1ByAge leaves. -/
theorem l1ByAge_split (f : Family) (l : List Int) (p : Int) : ∃ a b, l = a ++ b ∧ l1ByAge f l p = a ++ p :: b ∧ (∀ q ∈ a, implElder f p q = false) ∧ (b = [] ∨ ∃ c t, b = c :: t ∧ implElder f p c = true) := by
  unfold l1ByAge
  refine loopN_to (fun i (v : List Int × Bool) => i ≤ l.length ∧ ((v.2 = false ∧ v.1 = l.take i ∧ ∀ q ∈ v.1, implElder f p q = false) ∨ (v.2 = true ∧ ∃ a c t, l.take i = a ++ c :: t ∧ v.1 = a ++ p :: c :: t ∧ (∀ q ∈ a, implElder f p q = false) ∧ implElder f p c = true))) (fun (r : List Int) => ∃ a b, l = a ++ b ∧ r = a ++ p :: b ∧ (∀ q ∈ a, implElder f p q = false) ∧ (b = [] ∨ ∃ c t, b = c :: t ∧ implElder f p c = true)) ⟨Nat.zero_le _, .inl ⟨rfl, by simp, by simp⟩⟩ (fun i v next hi hv hn => ?_) (fun v hv => ?_)
  · have e : l.take (i + 1) = l.take i ++ [l.getD i default] := by
      rw [List.take_add_one, List.getD_eq_getElem?_getD, List.getElem?_eq_getElem hi]; rfl
    obtain ⟨w, d⟩ := v
    obtain ⟨h1, h2⟩ := hv
    refine cond_both (p := fun (r : List Int) => ∃ a b, l = a ++ b ∧ r = a ++ p :: b ∧ (∀ q ∈ a, implElder f p q = false) ∧ (b = [] ∨ ∃ c t, b = c :: t ∧ implElder f p c = true)) (fun c => hn _ ⟨hi, ?_⟩) (fun c => hn _ ⟨hi, ?_⟩)
    · simp only [Bool.and_eq_true, not_t_iff] at c
      rcases h2 with ⟨_, h3, h4⟩ | ⟨h3, _⟩
      · simp only at h3 h4
        refine .inr ⟨rfl, w, l.getD i default, [], by rw [e, h3], by simp, h4, c.2⟩
      · exact absurd h3 (by simp [c.1])
    · rcases h2 with ⟨h3, h4, h5⟩ | ⟨h3, a, x, t, h4, h5, h6, h7⟩
      · simp only at h3 h4 h5
        subst h3
        simp only [Bool.not_false, Bool.true_and] at c
        refine .inl ⟨rfl, by simp only [h4, e], fun q hq => ?_⟩
        rcases List.mem_append.1 hq with hq | hq
        · exact h5 q hq
        · rw [List.mem_singleton.1 hq]; exact c
      · simp only at h3 h5
        refine .inr ⟨h3, a, x, t ++ [l.getD i default], by rw [e, h4]; simp, by simp only [h5]; simp, h6, h7⟩
  · have e : l.take l.length = l := List.take_length
    obtain ⟨w, d⟩ := v
    rw [e] at hv
    rcases hv.2 with ⟨h3, h4, h5⟩ | ⟨h3, a, x, t, h4, h5, h6, h7⟩
    · simp only at h3 h4 h5
      subst h3
      exact ⟨w, [], by simp [h4], by simp, h5, .inl rfl⟩
    · simp only at h3 h5
      subst h3
      exact ⟨a, x :: t, h4, h5, h6, .inr ⟨x, t, rfl, h7⟩⟩
theorem byAge_ins {f : Family} {l : List Int} (p : Int) (h : ByAge f l) : ByAge f (l1ByAge f l p) ∧ (l1ByAge f l p).Perm (l ++ [p]) := by
  have hR := elder_swo f
  obtain ⟨a, b, h1, h2, h3, h4⟩ := l1ByAge_split f l p
  rw [h2, h1]
  unfold ByAge at h ⊢
  rw [h1, List.pairwise_append] at h
  refine ⟨List.pairwise_append.2 ⟨h.1, List.pairwise_cons.2 ⟨fun y hy => ?_, h.2.1⟩, fun x hx y hy => ?_⟩, ?_⟩
  · rcases h4 with h4 | ⟨c, t, h4, h5⟩
    · rw [h4] at hy; cases hy
    · rw [h4] at hy h
      have h6 := (List.pairwise_cons.1 h.2.1).1
      rcases List.mem_cons.1 hy with hy | hy
      · rw [hy]; exact hR.asym _ _ h5
      · exact hR.ntr _ _ _ (h6 y hy) (hR.asym _ _ h5)
  · rcases List.mem_cons.1 hy with hy | hy
    · rw [hy]; exact h3 x hx
    · exact h.2.2 x hx y hy
  · rw [List.append_assoc]
    exact List.Perm.append_left a (List.perm_append_singleton p b).symm
theorem l1Children_age (f : Family) (p : Int) : ByAge f (l1Children f p) ∧ (l1Children f p).Perm (kidList f p f.people.length) := by
  unfold l1Children
  refine loopN_to (fun i (v : List Int) => ByAge f v ∧ v.Perm (kidList f p i)) (fun (r : List Int) => ByAge f r ∧ r.Perm (kidList f p f.people.length)) ⟨List.Pairwise.nil, .refl _⟩ (fun i v next hi hv hn => ?_) (fun v hv => hv)
  refine cond_both (p := fun (r : List Int) => ByAge f r ∧ r.Perm (kidList f p f.people.length)) (fun c => hn _ ?_) (fun c => hn _ ?_)
  · have h := byAge_ins (i : Int) hv.1
    refine ⟨h.1, ?_⟩
    rw [kidList_succ, if_pos (show isKid f p i = true from c)]
    exact h.2.trans (hv.2.append_right _)
  · refine ⟨hv.1, ?_⟩
    rw [kidList_succ, if_neg (by rw [show isKid f p i = false from c]; simp), List.append_nil]
    exact hv.2
theorem implKids_age (f : Family) (p : Int) (hf : f.people.length ≤ 40) : ByAge f (implKids f p) ∧ (implKids f p).Perm (kidList f p f.people.length) := by
  unfold implKids implChosen
  refine loopN_to (fun i (v : List Int) => v = kidList f p i) (fun (r : List Int) => ByAge f r ∧ r.Perm (kidList f p f.people.length)) rfl (fun i v next hi hv hn => ?_) (fun v hv => ?_)
  · refine cond_both (p := fun (r : List Int) => ByAge f r ∧ r.Perm (kidList f p f.people.length)) (fun c => hn _ ?_) (fun c => hn _ ?_)
    · rw [hv, kidList_succ, if_pos (show isKid f p i = true from c)]
    · rw [hv, kidList_succ, if_neg (by rw [show isKid f p i = false from c]; simp), List.append_nil]
  · have h := slice_byAge f v (by rw [hv]; have := kidList_len f p f.people.length; omega)
    rw [hv] at h
    revert h
    subst hv
    exact fun h => h
theorem implKids_eq (f : Family) (p : Int) (hf : f.people.length ≤ 40) : implKids f p = l1Children f p := by
  have h1 := implKids_age f p hf
  have h2 := l1Children_age f p
  exact byAge_unique h1.1 h2.1 (h1.2.trans h2.2.symm)
theorem l1Children_okl (f : Family) (p : Int) : (∀ c ∈ l1Children f p, 0 ≤ c ∧ c < f.people.length) ∧ (l1Children f p).length ≤ f.people.length :=
  ⟨fun c hc => kidList_mem ((l1Children_age f p).2.mem_iff.1 hc), l1Children_len f p⟩
theorem implKids_ok (f : Family) (p : Int) (hf : f.people.length ≤ 40) : (∀ c ∈ implKids f p, 0 ≤ c ∧ c < f.people.length) ∧ (implKids f p).length ≤ f.people.length := by
  rw [implKids_eq f p hf]; exact l1Children_okl f p

theorem take_snoc {α : Type} (l : List α) (d : α) {i : Nat} (hi : i < l.length) : l.take (i + 1) = l.take i ++ [l.getD i d] := by
  rw [List.take_add_one, List.getD_eq_getElem?_getD, List.getElem?_eq_getElem hi]; rfl
theorem filter_snoc {α : Type} (p : α → Bool) (l : List α) (x : α) : (l ++ [x]).filter p = l.filter p ++ (bif p x then [x] else []) := by
  rw [List.filter_append]
  cases h : p x <;> simp [h]
end Go.Proofs.Ytmefknjcgdbceaa
