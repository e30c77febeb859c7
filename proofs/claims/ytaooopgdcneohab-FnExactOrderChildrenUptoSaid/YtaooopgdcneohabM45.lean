import Derived.Test.YtaooopgdcneohabV45
set_option maxHeartbeats 4000000
set_option linter.unusedSimpArgs false
set_option linter.unusedVariables false
namespace Go.Proofs.Ytaooopgdcneohab
open Go Go.Lite Go.Proofs
theorem l1ByAge_mem (x : Family) (l : List Int) (p y : Int) : y ∈ l1ByAge x l p ↔ y = p ∨ y ∈ l := by
  unfold l1ByAge
  refine loopN_to (fun i (v : List Int × Bool) => i ≤ l.length ∧ (y ∈ v.1 ↔ (v.2 = true ∧ y = p) ∨ y ∈ l.take i)) (fun (r : List Int) => y ∈ r ↔ y = p ∨ y ∈ l) ⟨Nat.zero_le _, by simp⟩ (fun i v next hi hv hn => ?_) (fun v hv => ?_)
  · have e : l.take (i + 1) = l.take i ++ [l.getD i default] := by
      rw [List.take_add_one, List.getD_eq_getElem?_getD, List.getElem?_eq_getElem hi]; rfl
    obtain ⟨w, d⟩ := v
    obtain ⟨h1, h2⟩ := hv
    refine cond_both (p := fun (r : List Int) => y ∈ r ↔ y = p ∨ y ∈ l) (fun c => hn _ ⟨hi, ?_⟩) (fun c => hn _ ⟨hi, ?_⟩)
    · simp only [Bool.and_eq_true, not_t_iff] at c
      simp only at h2
      simp only [List.mem_append, List.mem_singleton, h2, c.1, e, Bool.false_eq_true, false_and, false_or, true_and]
      constructor
      · rintro ((h | h) | h)
        · exact .inr (.inl h)
        · exact .inl h
        · exact .inr (.inr h)
      · rintro (h | h | h)
        · exact .inl (.inr h)
        · exact .inl (.inl h)
        · exact .inr h
    · simp only at h2
      simp only [List.mem_append, List.mem_singleton, h2, e, or_assoc]
  · have e : l.take l.length = l := List.take_length
    rw [e] at hv
    refine cond_both (p := fun (r : List Int) => y ∈ r ↔ y = p ∨ y ∈ l) (fun c => ?_) (fun c => ?_)
    · simp only [not_t_iff] at c
      simp only [List.mem_append, List.mem_singleton, hv.2, c, Bool.false_eq_true, false_and, false_or]
      exact Or.comm
    · simp only [not_f_iff] at c
      rw [hv.2, c]; simp
theorem l1ByAge_len (x : Family) (l : List Int) (p : Int) : (l1ByAge x l p).length = l.length + 1 := by
  unfold l1ByAge
  refine loopN_to (fun i (v : List Int × Bool) => v.1.length = i + (bif v.2 then 1 else 0)) (fun (r : List Int) => r.length = l.length + 1) (by simp) (fun i v next hi hv hn => ?_) (fun v hv => ?_)
  · obtain ⟨w, d⟩ := v
    refine cond_both (p := fun (r : List Int) => r.length = l.length + 1) (fun c => hn _ ?_) (fun c => hn _ ?_)
    · simp only [Bool.and_eq_true, not_t_iff] at c
      simp only [c.1, cond_false] at hv
      simp only [List.length_append, List.length_singleton, hv, cond_true]
    · simp only at hv
      simp only [List.length_append, List.length_singleton, hv]
      omega
  · obtain ⟨w, d⟩ := v
    cases d
    · simp only [Bool.not_false, cond_true, List.length_append, List.length_singleton]; simp only [cond_false] at hv; omega
    · simp only [Bool.not_true, cond_false]; simp only [cond_true] at hv; omega
def depN (d : List Int) (p : Person) : Int :=
  bif decide (0 ≤ p.father) then (bif decide (0 ≤ p.mother) then Max.max (d.getD p.father.toNat default + 1) (d.getD p.mother.toNat default + 1) else d.getD p.father.toNat default + 1) else (bif decide (0 ≤ p.mother) then Max.max 0 (d.getD p.mother.toNat default + 1) else 0)
theorem l1Depths_fold (x : Family) : l1Depths x = (List.range' 0 x.people.length).foldl (fun v i => v ++ [depN v (x.people.getD i default)]) [] := by
  have e := loopN_fold (fun i (v : List Int) => v ++ [depN v (x.people.getD i default)]) (fun (v : List Int) => v) x.people.length 0 []
  rw [← e]
  unfold l1Depths
  congr 1
  funext i v next
  unfold depN
  cases decide (0 ≤ (x.people.getD i default).father) <;> cases decide (0 ≤ (x.people.getD i default).mother) <;> rfl
theorem dep_snoc (l : List Person) (p : Person) (u u' : List Union) : l1Depths ⟨l ++ [p], u⟩ = l1Depths ⟨l, u'⟩ ++ [depN (l1Depths ⟨l, u'⟩) p] := by
  rw [l1Depths_fold, l1Depths_fold]
  simp only [List.length_append, List.length_singleton]
  rw [List.range'_concat, List.foldl_append]
  simp only [Nat.one_mul, Nat.zero_add, List.foldl_cons, List.foldl_nil]
  have h : (List.range' 0 l.length).foldl (fun v i => v ++ [depN v ((l ++ [p]).getD i default)]) [] = (List.range' 0 l.length).foldl (fun v i => v ++ [depN v (l.getD i default)]) [] := by
    have : ∀ (r : List Nat) (s : List Int), (∀ i ∈ r, i < l.length) → r.foldl (fun v i => v ++ [depN v ((l ++ [p]).getD i default)]) s = r.foldl (fun v i => v ++ [depN v (l.getD i default)]) s := by
      intro r
      induction r with
      | nil => intro s _; rfl
      | cons a r ih =>
        intro s hr
        simp only [List.foldl_cons]
        rw [snoc_lt' (hr a (by simp)), ih _ fun i hi => hr i (by simp [hi])]
    exact this _ _ fun i hi => by have := List.mem_range'_1.1 hi; omega
  rw [h, snoc_last rfl]
/-- A family in the making: nobody died, births within bounds. -/
def dp (l : List Person) (k : Nat) : Int := (l1Depths ⟨l, []⟩).getD k default
theorem dp_of (l : List Person) (u : List Union) (k : Nat) : (l1Depths ⟨l, u⟩).getD k default = dp l k := by
  unfold dp; rw [l1Depths_fold, l1Depths_fold]
theorem dp_len (l : List Person) : (l1Depths ⟨l, []⟩).length = l.length := l1Depths_len ⟨l, []⟩
theorem dp_lt (l : List Person) (p : Person) {k : Nat} (hk : k < l.length) : dp (l ++ [p]) k = dp l k := by
  unfold dp; rw [dep_snoc l p [] [], snoc_lt' (by rw [dp_len]; exact hk)]
theorem dp_last (l : List Person) (p : Person) {k : Nat} (hk : k = l.length) : dp (l ++ [p]) k = depN (l1Depths ⟨l, []⟩) p := by
  unfold dp; rw [dep_snoc l p [] [], snoc_last (by rw [dp_len]; exact hk)]
/-- Who may be a parent of one that comes next. -/
def PaOk (l : List Person) (q s : Int) (n : Nat) : Prop := q = -1 ∨ 0 ≤ q ∧ q < n ∧ (l.getD q.toNat default).sex = s
def MkB (l : List Person) : Prop := ∀ k : Nat, k < l.length → (l.getD k default).born ≤ 11 + 30 * dp l k
theorem MkB.nil : MkB [] := fun k hk => absurd hk (Nat.not_lt_zero _)
theorem depN_bd {l : List Person} {p : Person} {D : Int} (hD : 0 ≤ D) (hl : ∀ k : Nat, k < l.length → 0 ≤ dp l k) (hf : p.father = -1 ∨ 0 ≤ p.father ∧ p.father < l.length ∧ dp l p.father.toNat < D) (hm : p.mother = -1 ∨ 0 ≤ p.mother ∧ p.mother < l.length ∧ dp l p.mother.toNat < D) :
    0 ≤ depN (l1Depths ⟨l, []⟩) p ∧ depN (l1Depths ⟨l, []⟩) p ≤ D ∧ (0 ≤ p.father → dp l p.father.toNat + 1 ≤ depN (l1Depths ⟨l, []⟩) p) ∧ (0 ≤ p.mother → dp l p.mother.toNat + 1 ≤ depN (l1Depths ⟨l, []⟩) p) := by
  have h1 : 0 ≤ p.father → 0 ≤ dp l p.father.toNat := fun h => hl _ (by omega)
  have h2 : 0 ≤ p.mother → 0 ≤ dp l p.mother.toNat := fun h => hl _ (by omega)
  unfold depN
  show 0 ≤ (bif decide (0 ≤ p.father) then (bif decide (0 ≤ p.mother) then Max.max (dp l p.father.toNat + 1) (dp l p.mother.toNat + 1) else dp l p.father.toNat + 1) else (bif decide (0 ≤ p.mother) then Max.max 0 (dp l p.mother.toNat + 1) else 0)) ∧ _
  change _ ∧ (bif decide (0 ≤ p.father) then (bif decide (0 ≤ p.mother) then Max.max (dp l p.father.toNat + 1) (dp l p.mother.toNat + 1) else dp l p.father.toNat + 1) else (bif decide (0 ≤ p.mother) then Max.max 0 (dp l p.mother.toNat + 1) else 0)) ≤ D ∧ (_ → _ ≤ (bif decide (0 ≤ p.father) then (bif decide (0 ≤ p.mother) then Max.max (dp l p.father.toNat + 1) (dp l p.mother.toNat + 1) else dp l p.father.toNat + 1) else (bif decide (0 ≤ p.mother) then Max.max 0 (dp l p.mother.toNat + 1) else 0))) ∧ (_ → _ ≤ (bif decide (0 ≤ p.father) then (bif decide (0 ≤ p.mother) then Max.max (dp l p.father.toNat + 1) (dp l p.mother.toNat + 1) else dp l p.father.toNat + 1) else (bif decide (0 ≤ p.mother) then Max.max 0 (dp l p.mother.toNat + 1) else 0)))
  cases c1 : decide (0 ≤ p.father) <;> cases c2 : decide (0 ≤ p.mother) <;> simp only [cond_true, cond_false] <;> simp only [decide_eq_true_eq, decide_eq_false_iff_not] at c1 c2 <;> omega
theorem par_mem {p : Person} {l : List Person} {u : List Union} {q : Int} : q ∈ l1Parents ⟨[p], u⟩ 0 ↔ (0 ≤ p.father ∧ q = p.father) ∨ (0 ≤ p.mother ∧ q = p.mother) := by
  unfold l1Parents
  have e : ([p] : List Person).getD (Int.toNat 0) default = p := rfl
  simp only [e]
  cases c1 : decide (0 ≤ p.father) <;> cases c2 : decide (0 ≤ p.mother) <;> simp only [cond_true, cond_false] <;> simp only [decide_eq_true_eq, decide_eq_false_iff_not] at c1 c2 <;> simp [c1, c2]
/-- Some of those of a family in the making have died. -/
structure Dying (l : List Person) (v : List Person) : Prop where
  len : v.length = l.length
  same : ∀ k : Nat, k < l.length → (v.getD k default).name = (l.getD k default).name ∧ (v.getD k default).sex = (l.getD k default).sex ∧ (v.getD k default).father = (l.getD k default).father ∧ (v.getD k default).mother = (l.getD k default).mother ∧ (v.getD k default).born = (l.getD k default).born
  died : ∀ k : Nat, k < l.length → (v.getD k default).died = -1 ∨ (l.getD k default).born ≤ (v.getD k default).died ∧ (v.getD k default).died ≤ 500 ∧ ∀ c : Nat, c < l.length → (l.getD c default).father = k ∨ (l.getD c default).mother = k → (l.getD c default).born ≤ (v.getD k default).died
theorem Dying.set {l v : List Person} (h : Dying l v) {k : Nat} (hk : k < l.length) {y : Int} (h1 : (l.getD k default).born ≤ y ∧ y ≤ 500) (h2 : ∀ c : Nat, c < l.length → (l.getD c default).father = k ∨ (l.getD c default).mother = k → (l.getD c default).born ≤ y) :
    Dying l (v.set k ⟨(v.getD k default).name, (v.getD k default).sex, (v.getD k default).father, (v.getD k default).mother, (v.getD k default).born, y⟩) := by
  refine ⟨by simp [h.len], fun i hi => ?_, fun i hi => ?_⟩
  · rw [getD_set]
    split
    · rename_i e; rw [e.1]; exact h.same k hk
    · exact h.same i hi
  · rw [getD_set]
    split
    · rename_i e; rw [e.1]; exact .inr ⟨h1.1, h1.2, h2⟩
    · exact h.died i hi
theorem dep_same {l v : List Person} (u : List Union) (hl : v.length = l.length) (h : ∀ k : Nat, k < l.length → (v.getD k default).father = (l.getD k default).father ∧ (v.getD k default).mother = (l.getD k default).mother) : l1Depths ⟨v, u⟩ = l1Depths ⟨l, []⟩ := by
  rw [l1Depths_fold, l1Depths_fold]
  simp only [hl]
  have : ∀ (r : List Nat) (s : List Int), (∀ i ∈ r, i < l.length) → r.foldl (fun w i => w ++ [depN w (v.getD i default)]) s = r.foldl (fun w i => w ++ [depN w (l.getD i default)]) s := by
    intro r
    induction r with
    | nil => intro s _; rfl
    | cons a r ih =>
      intro s hr
      simp only [List.foldl_cons]
      have e : depN s (v.getD a default) = depN s (l.getD a default) := by unfold depN; rw [(h a (hr a (by simp))).1, (h a (hr a (by simp))).2]
      rw [e, ih _ fun i hi => hr i (by simp [hi])]
  exact this _ _ fun i hi => by have := List.mem_range'_1.1 hi; omega
theorem mem4 {n : Int} (h : n ∈ ([1, 7, 20, 25] : List Int)) : 1 ≤ n ∧ n ≤ 25 := by
  simp only [List.mem_cons, List.not_mem_nil, or_false] at h; omega
theorem mem3b {n : Int} (h : n ∈ ([3, 5, 9] : List Int)) : 1 ≤ n ∧ n ≤ 9 := by
  simp only [List.mem_cons, List.not_mem_nil, or_false] at h; omega
theorem mem5b {n : Int} (h : n ∈ ([0, 1, 5, 30, 60] : List Int)) : 0 ≤ n ∧ n ≤ 60 := by
  simp only [List.mem_cons, List.not_mem_nil, or_false] at h; omega
def PaDp (l : List Person) (q s : Int) : Prop := PaOk l q s l.length ∧ (0 ≤ q → dp l q.toNat < 10)
/-- A year of birth, behind the first i parents. -/
def Born (l : List Person) (ps : List Int) (i : Nat) (b : Int) : Prop := 0 ≤ b ∧ (b ≤ 11 ∨ ∃ q ∈ ps, b ≤ (l.getD q.toNat default).born + 30) ∧ ∀ j : Nat, j < i → (l.getD (ps.getD j default).toNat default).born < b
/-- A year behind the births of the first i children. -/
def Last (l : List Person) (cs : List Int) (k i : Nat) (t : Int) : Prop := (l.getD k default).born ≤ t ∧ t ≤ 400 ∧ ∀ j : Nat, j < i → (l.getD (cs.getD j default).toNat default).born ≤ t
theorem none_ok (l : List Person) (s : Int) : PaDp l (-1) s := ⟨.inl rfl, fun h => absurd h (by omega)⟩
theorem born0 {l : List Person} {ps : List Int} {b : Int} (h : 0 ≤ b ∧ b ≤ 11) : Born l ps 0 b := ⟨h.1, .inl h.2, fun j hj => absurd hj (Nat.not_lt_zero _)⟩
theorem getD_lt_mem {ps : List Int} {j : Nat} (h : j < ps.length) : ps.getD j default ∈ ps := getD_mem h
theorem par_rng {l : List Person} {f m s b d : Int} {n : List UInt8} {u : List Union} {j : Nat} (hf : PaDp l f 1) (hm : PaDp l m 2) (hj : j < (l1Parents ⟨[⟨n, s, f, m, b, d⟩], u⟩ 0).length) :
    0 ≤ (l1Parents ⟨[⟨n, s, f, m, b, d⟩], u⟩ 0).getD j default ∧ (l1Parents ⟨[⟨n, s, f, m, b, d⟩], u⟩ 0).getD j default < l.length := by
  have h := (par_mem (l := l)).1 (getD_lt_mem hj)
  have h1 := hf.1; have h2 := hm.1
  unfold PaOk at h1 h2
  rcases h with ⟨h0, e⟩ | ⟨h0, e⟩ <;> rw [e] <;> simp only at h0 ⊢ <;> omega
theorem born_step {l : List Person} {ps : List Int} {i : Nat} {b st x : Int} (h : Born l ps i b) (hi : i < ps.length) (hs : 1 ≤ st ∧ st ≤ 25) (hx : 0 ≤ x ∧ x < 6) : Born l ps (i + 1) (Max.max b ((l.getD (ps.getD i default).toNat default).born + st + x)) := by
  refine ⟨by have := h.1; omega, ?_, fun j hj => ?_⟩
  · rcases h.2.1 with e | ⟨q, hq, e⟩
    · by_cases c : b ≤ (l.getD (ps.getD i default).toNat default).born + st + x
      · exact .inr ⟨_, getD_lt_mem hi, by omega⟩
      · exact .inl (by omega)
    · by_cases c : b ≤ (l.getD (ps.getD i default).toNat default).born + st + x
      · exact .inr ⟨_, getD_lt_mem hi, by omega⟩
      · exact .inr ⟨q, hq, by omega⟩
  · rcases Nat.lt_or_ge j i with e | e
    · have := h.2.2 j e; omega
    · have e2 : j = i := by omega
      rw [e2]; omega
theorem born_all {l : List Person} {ps : List Int} {b : Int} (h : Born l ps ps.length b) : ∀ q ∈ ps, (l.getD q.toNat default).born < b := fun q hq => by
  obtain ⟨i, hi, e⟩ := List.getElem_of_mem hq
  have := h.2.2 i hi
  rw [show ps.getD i default = q by rw [List.getD_eq_getElem?_getD, List.getElem?_eq_getElem hi, Option.getD_some, e]] at this
  exact this
theorem last_step {v : List Person} {cs : List Int} {k i : Nat} {t : Int} (h : Last v cs k i t) (hb : (v.getD (cs.getD i default).toNat default).born ≤ 400) : Last v cs k (i + 1) (Max.max t (v.getD (cs.getD i default).toNat default).born) := by
  refine ⟨by have := h.1; omega, by have := h.2.1; omega, fun j hj => ?_⟩
  rcases Nat.lt_or_ge j i with e | e
  · have := h.2.2 j e; omega
  · have e2 : j = i := by omega
    rw [e2]; omega
end Go.Proofs.Ytaooopgdcneohab
