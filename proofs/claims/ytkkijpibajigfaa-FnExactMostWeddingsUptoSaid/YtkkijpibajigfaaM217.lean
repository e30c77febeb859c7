import Derived.Test.YtkkijpibajigfaaVM1
set_option maxHeartbeats 4000000
set_option linter.unusedSimpArgs false
set_option linter.unusedVariables false
namespace Go.Proofs.Ytkkijpibajigfaa
open Go Go.Lite Go.Proofs
def C44 (R : (List (List Bool))) : LV × List (Nat × BC) := (.own 0, [(0, .nest true 1 R.length (nrOf (cBool) R))])
def l2Blank (x0 : Int) : (List (List Bool)) := loopN (fun i1 (v1 : (List (List Bool))) next => next (v1 ++ [(List.replicate x0.toNat (default : Bool))])) (fun (v1 : (List (List Bool))) => v1) x0.toNat 0 ([] : List (List Bool))
def D44b1 (x0 : Int) (i1 : Nat) (v1 : (List (List Bool))) : Dl := ⟨[(4, .int .i64 ((i1 : Nat) : Int)), (3, .own 20003)], [(20003, .nest true 1 v1.length (nrOf (cBool) v1))]⟩
def A44b1 (x0 : Int) (i1 : Nat) (v1 : (List (List Bool))) : Ann := r0 1 [0, 2, 3, 4, 8] [20003] (cn (decide (((i1 : Nat) : Int) < x0)) (.reg 1 [] [(2, msL 13 (cBool) 1 x0 x0 x0.toNat (default : Bool) (rfl)), (3, nB1 (cBool) (List.replicate x0.toNat (default : Bool))), (4, nA1 (cBool) v1 (List.replicate x0.toNat (default : Bool)) 24)] [0, 2, 3, 4] [15] [] [] [] [0, 4, 8] (r1 1 [0, 2, 3, 4] [15] [pf (inR .i64 (((i1 : Nat) : Int) + 1))] [0] (.next 0 [(20003, some 15)] (D44b1 x0 (i1 + 1) (v1 ++ [(List.replicate x0.toNat (default : Bool))]))))) (r0 1 [2] [20003] (rt [(0, some 20003)] (C44 v1))))
def A44 (x0 : Int) : Ann := .reg 2 [] [(1000, nB0 (cBool) 1)] [0, 2, 3] [5] [] [] [] [0] (r0 1 [0, 2, 3, 4] [5] (lp (D44b1 x0) [] [5] [(20003, some 5)] (D44b1 x0 0 ([] : List (List Bool))) (A44b1 x0)))
theorem blank_val (x : Int) : l2Blank x = List.replicate x.toNat (List.replicate x.toNat false) := by
  unfold l2Blank
  exact loopN_to (fun i (o : List (List Bool)) => o = List.replicate i (List.replicate x.toNat false)) (fun r => r = List.replicate x.toNat (List.replicate x.toNat false)) rfl (fun i v next hi hv hn => hn _ (by rw [hv, List.replicate_succ']; rfl)) (fun v hv => hv)
theorem ok_spec_l2Blank (x0 : Int) (h : 0 ≤ x0 ∧ x0 ≤ 1000) : FnT Try.prog 44 [.int .i64 x0] (C44 (l2Blank x0)) := by
  have aux : ∀ R, l2Blank x0 = R → slim (C44 R) (A44 x0) [] := by
    intro R hR
    refine rg ⟨trivial, trivial⟩ ?_
    refine rg trivial ?_
    revert hR; refine lN (fun i v => v = List.replicate i (List.replicate x0.toNat false)) (by (rfl)) rfl fun i1 v1 F1 hn1 hI1 hR hK1 => ?_
    refine rg trivial ?_
    refine ⟨fun hc1 => ?_, fun hc1 => ?_⟩
    · have hii1 : i1 < x0.toNat := by have := of_decide_eq_true hc1; omega
      replace hR := loopN_step hR hii1
      refine rg ⟨by (intros; omega), trivial, by (rw [hI1, List.length_replicate]; omega), trivial⟩ ?_
      refine rg ⟨by ( intros; simp only [inR]; omega), trivial⟩ ?_
      exact hK1 (v1 ++ [(List.replicate x0.toNat (default : Bool))]) hii1 (by (rw [hI1, List.replicate_succ']; rfl)) hR
    · obtain rfl : i1 = x0.toNat := by have := of_decide_eq_false hc1; omega
      replace hR := loopN_end hR (Nat.lt_irrefl _)
      refine rg trivial ?_
      exact congrArg C44 hR
  exact Fn.go 17 Try.func44 (by kernel_rfl) (by kernel_rfl) (by simp [C44, FrsN, nrOf, Frs, FrsL, FrsB, rowOf, cInt, cBool, cStr, cSl, FrsL_app, cPerson, cUnion, cFamily, cLaw]) (A44 x0) (by kernel_rfl) (aux _ rfl)
def k44 (x0 : Int) : Cl := (hres (C44 (l2Blank x0)), k1 (ok_spec_l2Blank x0))
/-! ### Who may wed whom -/
def canI (x : Family) (l : Law) (y : Int) (a b : Nat) : Bool := ((decide (((x.people.getD a default).sex) = 1)) && (decide (((x.people.getD b default).sex) = 2))) && (decide ((((impediments x l ((a : Nat) : Int) ((b : Nat) : Int) y).length : Nat) : Int) = 0))
def canS (x : Family) (l : Law) (y : Int) (a b : Nat) : Bool := ((decide (((x.people.getD a default).sex) = 1)) && (decide (((x.people.getD b default).sex) = 2))) && (specMay x l ((a : Nat) : Int) ((b : Nat) : Int) y)
theorem can_eq {x : Family} {l : Law} (hf : specIsFamily x = true) (hl : specIsLaw l = true) (y : Int) {a b : Nat} (ha : a < x.people.length) (hb : b < x.people.length) : canS x l y a b = canI x l y a b := by
  unfold canS canI
  rw [may_of hl hf (by omega) (by omega), imp_core hf (by omega) (by omega)]
/-- The first of k that go with a. -/
def rowTo (c : Nat → Nat → Bool) (a k : Nat) : List Int := ((List.range k).filter (c a)).map fun b => ((b : Nat) : Int)
theorem rowTo_succ (c : Nat → Nat → Bool) (a k : Nat) : rowTo c a (k + 1) = rowTo c a k ++ (bif c a k then [((k : Nat) : Int)] else []) := by
  unfold rowTo
  rw [List.range_succ, List.filter_append, List.map_append]
  cases h : c a k <;> simp [h]
theorem rowTo_len (c : Nat → Nat → Bool) (a k : Nat) : (rowTo c a k).length ≤ k := by
  unfold rowTo
  rw [List.length_map]
  exact Nat.le_trans (List.length_filter_le _ _) (by simp)
theorem rowTo_mem {c : Nat → Nat → Bool} {a k : Nat} {b : Int} (h : b ∈ rowTo c a k) : 0 ≤ b ∧ b < k := by
  unfold rowTo at h
  obtain ⟨z, hz, e⟩ := List.mem_map.1 h
  have := List.mem_range.1 (List.mem_filter.1 hz).1
  omega
structure MayI (c : Nat → Nat → Bool) (n i j : Nat) (v : List (List Int)) : Prop where
  len : v.length = n
  row : ∀ a : Nat, a < n → v.getD a [] = if a < i then rowTo c a n else if a = i then rowTo c a j else []
theorem MayI.start (c : Nat → Nat → Bool) (n : Nat) : MayI c n 0 0 (List.replicate n []) := ⟨by simp, fun a ha => by
  rw [if_neg (Nat.not_lt_zero _), List.getD_eq_getElem?_getD, List.getElem?_replicate, if_pos ha]
  split <;> rfl⟩
theorem MayI.put {c : Nat → Nat → Bool} {n i j : Nat} {v : List (List Int)} (h : MayI c n i j v) (hi : i < n) (hc : c i j = true) : MayI c n i (j + 1) (v.set i (v.getD i [] ++ [((j : Nat) : Int)])) :=
  ⟨by rw [List.length_set]; exact h.len, fun a ha => by
    have hr := h.row a ha
    rw [getD_set]
    split
    · rename_i e
      obtain ⟨rfl, _⟩ := e
      rw [hr, if_neg (Nat.lt_irrefl _), if_pos rfl, if_neg (Nat.lt_irrefl _), if_pos rfl, rowTo_succ, hc]; rfl
    · rename_i e
      have hne : ¬ a = i := fun q => e ⟨q, by have := h.len; omega⟩
      rw [hr, if_neg hne, if_neg hne]⟩
theorem MayI.skip {c : Nat → Nat → Bool} {n i j : Nat} {v : List (List Int)} (h : MayI c n i j v) (hc : c i j = false) : MayI c n i (j + 1) v :=
  ⟨h.len, fun a ha => by
    rw [h.row a ha]
    by_cases e : a = i
    · subst e
      rw [if_neg (Nat.lt_irrefl _), if_pos rfl, if_neg (Nat.lt_irrefl _), if_pos rfl, rowTo_succ, hc]; simp
    · rw [if_neg e, if_neg e]⟩
theorem MayI.next {c : Nat → Nat → Bool} {n i : Nat} {v : List (List Int)} (h : MayI c n i n v) : MayI c n (i + 1) 0 v :=
  ⟨h.len, fun a ha => by
    rw [h.row a ha]
    by_cases e : a < i
    · rw [if_pos e, if_pos (by omega)]
    · by_cases e2 : a = i
      · rw [if_neg e, if_pos e2, if_pos (by omega)]
      · rw [if_neg e, if_neg e2, if_neg (by omega)]
        by_cases e3 : a = i + 1
        · rw [if_pos e3]; rfl
        · rw [if_neg e3]⟩
theorem MayI.rowL {c : Nat → Nat → Bool} {n i j : Nat} {v : List (List Int)} (h : MayI c n i j v) (hi : i < n) : (v.getD i []).length ≤ j := by
  rw [h.row i hi, if_neg (Nat.lt_irrefl _), if_pos rfl]
  exact rowTo_len _ _ _
theorem MayI.all {c : Nat → Nat → Bool} {n : Nat} {v : List (List Int)} (h : MayI c n n 0 v) {a : Nat} (ha : a < n) : v.getD a [] = rowTo c a n := by rw [h.row a ha, if_pos ha]
theorem MayI.bd {c : Nat → Nat → Bool} {n : Nat} {v : List (List Int)} (h : MayI c n n 0 v) : ∀ y ∈ v, y.length ≤ n ∧ ∀ b ∈ y, 0 ≤ b ∧ b < n := fun y hy => by
  obtain ⟨a, ha, e⟩ := mem_getD (d := ([] : List Int)) hy
  rw [h.len] at ha
  rw [← e, h.all ha]
  exact ⟨rowTo_len _ _ _, fun b hb => rowTo_mem hb⟩
theorem MayI.wed {c : Nat → Nat → Bool} {n : Nat} {v : List (List Int)} (h : MayI c n n 0 v) (hn : n ≤ 40) {hus : List Int} (hh : hus.length = n ∧ ∀ y ∈ hus, -1 ≤ y ∧ y < n) {a : Nat} (ha : a < n) : WedOk v hus ((a : Nat) : Int) (List.replicate n (default : Bool)) := by
  have e : (List.replicate n (default : Bool)).length = n := by simp
  exact ⟨by rw [e]; exact hn, by rw [e]; exact h.len, by rw [e]; exact fun y hy => ⟨Nat.le_trans (h.bd y hy).1 hn, (h.bd y hy).2⟩, by rw [e]; exact hh.1, by rw [e]; exact hh.2, by rw [e]; omega⟩
/-- The same as a table. -/
structure MatI (c : Nat → Nat → Bool) (n i j : Nat) (v : List (List Bool)) : Prop where
  len : v.length = n
  rowl : ∀ a : Nat, a < n → (v.getD a []).length = n
  cell : ∀ a b : Nat, a < n → b < n → (v.getD a []).getD b default = if a < i ∨ (a = i ∧ b < j) then c a b else false
theorem MatI.put {c : Nat → Nat → Bool} {n i j : Nat} {v : List (List Bool)} (h : MatI c n i j v) (hi : i < n) : MatI c n i (j + 1) (v.set i ((v.getD i []).set j (c i j))) := by
  have hl := h.len
  refine ⟨by rw [List.length_set]; exact hl, fun a ha => ?_, fun a b ha hb => ?_⟩
  · rw [getD_set]
    split
    · rw [List.length_set]; exact h.rowl i hi
    · exact h.rowl a ha
  · rw [getD_set]
    split
    · rename_i e
      obtain ⟨rfl, _⟩ := e
      rw [getD_set]
      split
      · rename_i e2
        rw [if_pos (.inr ⟨rfl, by omega⟩), e2.1]
      · rename_i e2
        have hne : ¬ b = j := fun q => e2 ⟨q, by have := h.rowl a ha; omega⟩
        rw [h.cell a b ha hb]
        by_cases q : b < j
        · rw [if_pos (.inr ⟨rfl, q⟩), if_pos (.inr ⟨rfl, by omega⟩)]
        · rw [if_neg (by omega), if_neg (by omega)]
    · rename_i e
      have hne : ¬ a = i := fun q => e ⟨q, by omega⟩
      rw [h.cell a b ha hb]
      by_cases q : a < i
      · rw [if_pos (.inl q), if_pos (.inl q)]
      · rw [if_neg (by omega), if_neg (by omega)]
theorem MatI.next {c : Nat → Nat → Bool} {n i : Nat} {v : List (List Bool)} (h : MatI c n i n v) : MatI c n (i + 1) 0 v :=
  ⟨h.len, h.rowl, fun a b ha hb => by
    rw [h.cell a b ha hb]
    by_cases q : a < i ∨ a = i
    · rw [if_pos (by omega), if_pos (by omega)]
    · rw [if_neg (by omega), if_neg (by omega)]⟩
theorem MatI.aug {c : Nat → Nat → Bool} {n : Nat} {v : List (List Bool)} (h : MatI c n n 0 v) (hn : n ≤ 40) {hus : List Int} (hh : hus.length = n ∧ ∀ y ∈ hus, -1 ≤ y ∧ y < n) {a : Nat} (ha : a < n) : AugOk v ((a : Nat) : Int) (List.replicate n (default : Bool)) hus := by
  have e : (List.replicate n (default : Bool)).length = n := by simp
  refine ⟨by rw [e]; exact hn, by rw [e]; exact h.len, fun y hy => ?_, by rw [e]; exact hh.1, by rw [e]; exact hh.2, by rw [e]; omega⟩
  obtain ⟨a, ha, q⟩ := mem_getD (d := ([] : List Bool)) hy
  rw [h.len] at ha
  rw [e, ← q]
  exact h.rowl a ha
theorem minus_set {n i : Nat} {h : List Int} (hl : h.length = n ∧ ∀ k : Nat, k < i → h.getD k default = -1) (hi : i < n) : (h.set i (-1)).length = n ∧ ∀ k : Nat, k < i + 1 → (h.set i (-1)).getD k default = -1 :=
  ⟨by rw [List.length_set]; exact hl.1, fun k hk => by
    rw [getD_set]
    split
    · rfl
    · rename_i e; exact hl.2 k (by omega)⟩
theorem minus_rep {n : Nat} {h : List Int} (hl : h.length = n ∧ ∀ k : Nat, k < n → h.getD k default = -1) : h = List.replicate n (-1) := by
  apply List.ext_getElem
  · simp [hl.1]
  · intro k h1 h2
    have := hl.2 k (by omega)
    rw [List.getD_eq_getElem?_getD, List.getElem?_eq_getElem h1] at this
    simpa using this
theorem minus_ok (n : Nat) : (List.replicate n (-1 : Int)).length = n ∧ ∀ y ∈ List.replicate n (-1 : Int), -1 ≤ y ∧ y < n := ⟨by simp, fun y hy => by
  have := List.eq_of_mem_replicate hy
  omega⟩
theorem wed_out {v : List (List Int)} {hus : List Int} {a : Int} {n : Nat} (h : WedOk v hus a (List.replicate n (default : Bool))) : (wed v hus a (List.replicate n (default : Bool))).2.1.length = n ∧ ∀ y ∈ (wed v hus a (List.replicate n (default : Bool))).2.1, -1 ≤ y ∧ y < n := by
  have w := wed_ok 100 v hus a _ h h.fuel
  rw [List.length_replicate] at w
  exact ⟨w.hl, w.hin⟩
theorem aug_out {v : List (List Bool)} {hus : List Int} {a : Int} {n : Nat} (h : AugOk v a (List.replicate n (default : Bool)) hus) : (l9Aug v a (List.replicate n (default : Bool)) hus).2.2.length = n ∧ ∀ y ∈ (l9Aug v a (List.replicate n (default : Bool)) hus).2.2, -1 ≤ y ∧ y < n := by
  have w := aug_ok 100 v a _ hus h h.fuel
  rw [List.length_replicate] at w
  exact ⟨w.hl, w.hin⟩
theorem MatI.start (c : Nat → Nat → Bool) (n : Nat) : MatI c n 0 0 (l2Blank ((n : Nat) : Int)) := by
  rw [blank_val, Int.toNat_natCast]
  have e : ∀ a : Nat, a < n → (List.replicate n (List.replicate n false)).getD a [] = List.replicate n false := fun a ha => by
    rw [List.getD_eq_getElem?_getD, List.getElem?_replicate, if_pos ha]; rfl
  refine ⟨by simp, fun a ha => by rw [e a ha]; simp, fun a b ha hb => ?_⟩
  rw [e a ha, if_neg (by omega), List.getD_eq_getElem?_getD, List.getElem?_replicate, if_pos hb]; rfl
theorem MatI.rlen {c : Nat → Nat → Bool} {n i j : Nat} {v : List (List Bool)} (h : MatI c n i j v) (hi : i < n) : (v.getD i []).length = n := h.rowl i hi
theorem blank_len (n : Nat) : (l2Blank ((n : Nat) : Int)).length = n := by rw [blank_val]; simp
theorem MatI.blk {c : Nat → Nat → Bool} {n : Nat} {v : List (List Bool)} (h : MatI c n (l2Blank ((n : Nat) : Int)).length 0 v) : MatI c n n 0 v := by rw [blank_len] at h; exact h
end Go.Proofs.Ytkkijpibajigfaa
