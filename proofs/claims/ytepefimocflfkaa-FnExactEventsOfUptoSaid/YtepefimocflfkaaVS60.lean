import Derived.Test.YtepefimocflfkaaSA
set_option maxHeartbeats 4000000
set_option linter.unusedSimpArgs false
set_option linter.unusedVariables false
namespace Go.Proofs.Ytepefimocflfkaa
open Go Go.Lite Go.Proofs
/-! ### What sorts -/
section
variable {α : Type} [Inhabited α] {R : α → α → Bool}
/-- One place moves down. -/
structure InsI (R : α → α → Bool) (a i j : Int) (l : List α) : Prop where
  b : a ≤ j ∧ j ≤ i
  pr : ∀ p q, a ≤ p → p < q → q ≤ i → p ≠ j → q ≠ j → R (gi l q) (gi l p) = false
  up : ∀ q, j < q → q ≤ i → R (gi l q) (gi l j) = false
theorem InsI.start {a i : Int} {l : List α} (h : a ≤ i) (hs : Srt R a i l) : InsI R a i i l :=
  ⟨by omega, fun p q h1 h2 h3 _ h5 => hs p q h1 h2 (by omega), fun q h1 h2 => absurd h1 (by omega)⟩
theorem InsI.step (hR : SWO R) {a i j : Int} {l : List α} (h : InsI R a i j l) (ha : 0 ≤ a) (hl : i < l.length) (hj : a < j) (hr : R (gi l j) (gi l (j - 1)) = true) : InsI R a i (j - 1) (swp l j (j - 1)) := by
  have hb := h.b
  have hg := fun (k : Int) (hk : 0 ≤ k) => gi_swp l j (j - 1) k (by omega) (by omega) hk
  refine ⟨by omega, fun p q h1 h2 h3 h4 h5 => ?_, fun q h1 h2 => ?_⟩
  · rw [hg p (by omega), hg q (by omega), if_neg h4, if_neg h5]
    split
    · rw [if_neg (by omega)]
      exact h.pr p (j - 1) h1 (by omega) (by omega) (by omega) (by omega)
    · split
      · exact h.pr (j - 1) q (by omega) (by omega) h3 (by omega) (by omega)
      · exact h.pr p q h1 h2 h3 (by omega) (by omega)
  · rw [hg q (by omega), hg (j - 1) (by omega), if_neg (by omega), if_pos rfl]
    split
    · exact hR.asym _ _ hr
    · exact h.up q (by omega) h2
theorem InsI.done (hR : SWO R) {a i j : Int} {l : List α} (h : InsI R a i j l) (hr : a < j → R (gi l j) (gi l (j - 1)) = false) : Srt R a (i + 1) l := by
  have hb := h.b
  intro p q h1 h2 h3
  by_cases e1 : p = j
  · subst e1; exact h.up q h2 (by omega)
  · by_cases e2 : q = j
    · subst e2
      by_cases e3 : p = q - 1
      · subst e3; exact hr (by omega)
      · exact hR.ntr _ _ _ (hr (by omega)) (h.pr p (q - 1) h1 (by omega) (by omega) e1 (by omega))
    · exact h.pr p q h1 h2 (by omega) e1 e2
/-- A heap from a place on. -/
def Heap (R : α → α → Bool) (f k n : Int) (l : List α) : Prop := ∀ r c, k ≤ r → (c = 2 * r + 1 ∨ c = 2 * r + 2) → c < n → R (gi l (f + r)) (gi l (f + c)) = false
/-- A heap but for one place. -/
structure HeapI (R : α → α → Bool) (f k n r : Int) (l : List α) : Prop where
  b : k ≤ r
  ot : ∀ q c, k ≤ q → q ≠ r → (c = 2 * q + 1 ∨ c = 2 * q + 2) → c < n → R (gi l (f + q)) (gi l (f + c)) = false
  gr : ∀ q c, k ≤ q → (r = 2 * q + 1 ∨ r = 2 * q + 2) → (c = 2 * r + 1 ∨ c = 2 * r + 2) → c < n → R (gi l (f + q)) (gi l (f + c)) = false
theorem HeapI.start {f k n : Int} {l : List α} (hk : 0 ≤ k) (h : Heap R f (k + 1) n l) : HeapI R f k n k l :=
  ⟨by omega, fun q c h1 h2 h3 h4 => h q c (by omega) h3 h4, fun q c h1 h2 => absurd h1 (by omega)⟩
theorem HeapI.done {f k n r : Int} {l : List α} (h : HeapI R f k n r l) (hr : ∀ c, (c = 2 * r + 1 ∨ c = 2 * r + 2) → c < n → R (gi l (f + r)) (gi l (f + c)) = false) : Heap R f k n l := by
  intro q c h1 h2 h3
  by_cases e : q = r
  · subst e; exact hr c h2 h3
  · exact h.ot q c h1 e h2 h3
theorem HeapI.step (hR : SWO R) {f k n r c : Int} {l : List α} (h : HeapI R f k n r l) (h0 : 0 ≤ f ∧ 0 ≤ k ∧ f + n ≤ l.length) (hc : c = 2 * r + 1 ∨ c = 2 * r + 2) (hcn : c < n) (hr : R (gi l (f + r)) (gi l (f + c)) = true)
    (ho : ∀ d, (d = 2 * r + 1 ∨ d = 2 * r + 2) → d < n → R (gi l (f + c)) (gi l (f + d)) = false) : HeapI R f k n c (swp l (f + r) (f + c)) := by
  have hb := h.b
  have hg := fun (k : Int) (hk : 0 ≤ k) => gi_swp l (f + r) (f + c) k (by omega) (by omega) hk
  refine ⟨by omega, fun q d h1 h2 h3 h4 => ?_, fun q d h1 h2 h3 h4 => ?_⟩
  · rw [hg (f + q) (by omega), hg (f + d) (by omega), if_neg (by omega)]
    by_cases e : q = r
    · subst e
      rw [if_pos rfl]
      by_cases e2 : d = c
      · subst e2; rw [if_pos rfl]; exact hR.asym _ _ hr
      · rw [if_neg (by omega), if_neg (by omega)]
        exact ho d h3 h4
    · rw [if_neg (by omega)]
      by_cases e2 : d = r
      · subst e2
        rw [if_neg (by omega), if_pos rfl]
        exact h.gr q c h1 h3 hc hcn
      · rw [if_neg (by omega), if_neg (by omega)]
        exact h.ot q d h1 e h3 h4
  · have e : q = r := by omega
    subst e
    rw [hg (f + q) (by omega), hg (f + d) (by omega), if_neg (by omega), if_pos rfl, if_neg (by omega), if_neg (by omega)]
    exact h.ot c d (by omega) (by omega) h3 h4
/-- A list of which all is done but a range. -/
structure Done (R : α → α → Bool) (x1 x2 a b : Int) (l : List α) : Prop where
  d : ∀ i j, x1 ≤ i → i < j → j < x2 → (i < a ∨ b ≤ j) → R (gi l j) (gi l i) = false
  p : 0 < x1 → ∀ k, x1 ≤ k → k < x2 → R (gi l k) (gi l (x1 - 1)) = false
theorem Done.fin {x1 x2 a b : Int} {l : List α} (h : Done R x1 x2 a b l) (hs : Srt R a b l) : Srt R x1 x2 l := fun i j h1 h2 h3 => by
  by_cases e : i < a ∨ b ≤ j
  · exact h.d i j h1 h2 h3 e
  · exact hs i j (by omega) h2 (by omega)
end
/-! ### A family with fewer unions -/
theorem take_snoc {α : Type} (l : List α) (d : α) {i : Nat} (hi : i < l.length) : l.take (i + 1) = l.take i ++ [l.getD i d] := by
  rw [List.take_add_one, List.getD_eq_getElem?_getD, List.getElem?_eq_getElem hi]; rfl
def UDiff (a b : Union) : Prop := a.man = b.man → ¬ a.woman = b.woman
theorem pw_getD {α : Type} [Inhabited α] {R : α → α → Prop} : ∀ {l : List α}, (∀ k : Nat, k < l.length → ∀ j, j < k → R (l.getD j default) (l.getD k default)) → l.Pairwise R
  | [], _ => .nil
  | a :: l, h => by
    refine List.pairwise_cons.2 ⟨fun b hb => ?_, pw_getD fun k hk j hj => ?_⟩
    · obtain ⟨k, hk, e⟩ := mem_getD (d := default) hb
      have := h (k + 1) (by rw [List.length_cons]; omega) 0 (by omega)
      rw [List.getD_cons_zero, List.getD_cons_succ, e] at this
      exact this
    · have := h (k + 1) (by rw [List.length_cons]; omega) (j + 1) (by omega)
      rwa [List.getD_cons_succ, List.getD_cons_succ] at this
theorem getD_pw {α : Type} [Inhabited α] {R : α → α → Prop} : ∀ {l : List α}, l.Pairwise R → ∀ k : Nat, k < l.length → ∀ j, j < k → R (l.getD j default) (l.getD k default)
  | [], _, k, hk, _, _ => absurd hk (Nat.not_lt_zero _)
  | a :: l, h, k, hk, j, hj => by
    obtain ⟨h1, h2⟩ := List.pairwise_cons.1 h
    obtain ⟨k, rfl⟩ : ∃ m, k = m + 1 := ⟨k - 1, by omega⟩
    rw [List.length_cons] at hk
    rw [List.getD_cons_succ]
    cases j with
    | zero => rw [List.getD_cons_zero]; exact h1 _ (getD_mem (by omega))
    | succ j => rw [List.getD_cons_succ]; exact getD_pw h2 k (by omega) j (by omega)
theorem fam_sub {P : List Person} {U V : List Union} (h : specIsFamily ⟨P, U⟩ = true) (hs : V.Sublist U) : specIsFamily ⟨P, V⟩ = true := by
  obtain ⟨h1, h2, h3, h4⟩ := (fam_iff _).1 h
  have hl := hs.length_le
  dsimp only at h1
  refine (fam_iff _).2 ⟨⟨h1.1, by dsimp only; omega⟩, fun k hk => ?_, h3, fun k hk => ?_⟩
  · have := h2 k hk
    exact ⟨this.name, this.sex, this.born, this.died, this.uniq, this.fa, this.mo⟩
  · have hm := hs.subset (getD_mem (d := (default : Union)) hk)
    obtain ⟨j, hj, e⟩ := mem_getD (d := default) hm
    have hu := h4 j hj
    have hp : U.Pairwise UDiff := pw_getD fun k hk j hj => (h4 k hk).uniq j hj
    have hd := getD_pw (hp.sublist hs) k hk
    have e2 : (Family.mk P U).unions.getD j default = (Family.mk P V).unions.getD k default := e
    obtain ⟨u1, u2, u3, u4, u5, u6, u7, u8, _⟩ := hu
    rw [e2] at u1 u2 u3 u4 u5 u6 u7 u8
    exact ⟨u1, u2, u3, u4, u5, u6, u7, u8, hd⟩
def AuI (x : Family) (i : Nat) (u : List Union) : Prop := u.Sublist (x.unions.take i)
theorem AuI.snoc {x : Family} {i : Nat} {u : List Union} (h : AuI x i u) (hi : i < x.unions.length) : AuI x (i + 1) (u ++ [x.unions.getD i default]) := by
  unfold AuI
  rw [take_snoc _ default hi]
  exact List.Sublist.append h (List.Sublist.refl _)
theorem AuI.skip {x : Family} {i : Nat} {u : List Union} (h : AuI x i u) (hi : i < x.unions.length) : AuI x (i + 1) u := by
  unfold AuI
  rw [take_snoc _ default hi]
  exact List.Sublist.trans h (List.sublist_append_left _ _)
theorem AuI.fam {x : Family} {i : Nat} {u : List Union} (h : AuI x i u) (hf : specIsFamily x = true) : specIsFamily ⟨x.people, u⟩ = true := fam_sub (U := x.unions) hf (List.Sublist.trans h (List.take_sublist _ _))
/-! ### The order of numbers by keys -/
def kLt (keys : List Int) (a b : Int) : Prop := keys.getD a.toNat default < keys.getD b.toNat default ∨ (keys.getD a.toNat default = keys.getD b.toNat default ∧ a < b)
def upto (n : Nat) : List Int := (List.range n).map fun j => ((j : Nat) : Int)
theorem mem_upto {n : Nat} {a : Int} : a ∈ upto n ↔ 0 ≤ a ∧ a < n := by
  unfold upto
  rw [List.mem_map]
  constructor
  · rintro ⟨j, hj, rfl⟩; have := List.mem_range.1 hj; omega
  · intro h; exact ⟨a.toNat, List.mem_range.2 (by omega), by omega⟩
theorem upto_len (n : Nat) : (upto n).length = n := by simp [upto]
theorem upto_nodup (n : Nat) : (upto n).Nodup := by
  unfold upto
  rw [List.nodup_iff_pairwise_ne, List.pairwise_map]
  exact (List.nodup_iff_pairwise_ne.1 List.nodup_range).imp fun h e => h (by omega)
theorem upto_succ (n : Nat) : upto (n + 1) = upto n ++ [((n : Nat) : Int)] := by simp [upto, List.range_succ]
structure OrdI (keys : List Int) (i : Nat) (v : List Int) : Prop where
  perm : v.Perm (upto i)
  pw : v.Pairwise (kLt keys)
theorem OrdI.len {keys : List Int} {i : Nat} {v : List Int} (h : OrdI keys i v) : v.length = i := by rw [h.perm.length_eq, upto_len]
theorem OrdI.insert {keys : List Int} {i : Nat} {v : List Int} (h : OrdI keys i v) {c : Nat} (hc : c ≤ v.length) (h1 : ∀ m : Nat, m < c → ¬ keys.getD i default < keys.getD (v.getD m default).toNat default)
    (h2 : c < v.length → keys.getD i default < keys.getD (v.getD c default).toNat default) : OrdI keys (i + 1) (v.take c ++ ((i : Nat) : Int) :: v.drop c) := by
  have hpw := h.pw
  have hsp : (v.take c ++ v.drop c).Pairwise (kLt keys) := by rw [List.take_append_drop]; exact hpw
  obtain ⟨p1, p2, p3⟩ := List.pairwise_append.1 hsp
  have hi : ∀ a ∈ v, a < i := fun a ha => (mem_upto.1 (h.perm.mem_iff.1 ha)).2
  refine ⟨?_, List.pairwise_append.2 ⟨p1, List.pairwise_cons.2 ⟨fun b hb => ?_, p2⟩, fun a ha b hb => ?_⟩⟩
  · refine List.Perm.trans List.perm_middle ?_
    rw [List.take_append_drop, upto_succ]
    exact List.Perm.trans (List.Perm.cons _ h.perm) (List.perm_append_comm (l₁ := [((i : Nat) : Int)]))
  · obtain ⟨m, hm, e⟩ := mem_getD (d := default) hb
    rw [List.length_drop] at hm
    have e2 : b = v.getD (c + m) default := by
      rw [← e, List.getD_eq_getElem?_getD, List.getD_eq_getElem?_getD, List.getElem?_drop]
    have hk := h2 (by omega)
    left
    rw [Int.toNat_natCast, e2]
    rcases Nat.eq_zero_or_pos m with g | g
    · subst g; exact hk
    · have := getD_pw hpw (c + m) (by omega) c (by omega)
      rcases this with q | q <;> omega
  · rcases List.mem_cons.1 hb with e | hb'
    · subst e
      obtain ⟨m, hm, e⟩ := mem_getD (d := default) ha
      rw [List.length_take] at hm
      have e2 : a = v.getD m default := by
        rw [← e, List.getD_eq_getElem?_getD, List.getD_eq_getElem?_getD, List.getElem?_take, if_pos (by omega)]
      have hk := h1 m (by omega)
      have ha' := hi a (List.mem_of_mem_take ha)
      unfold kLt
      rw [Int.toNat_natCast, e2]
      rw [e2] at ha'
      omega
    · exact p3 a ha b hb'
structure LI (i : Nat) (v : List Int) : Prop where
  len : v.length = i
  rng : ∀ c ∈ v, 0 ≤ c ∧ c < i
structure LJ (i j : Nat) (w : List Int) (d : Bool) : Prop where
  len : w.length = j + (bif d then 1 else 0)
  rng : ∀ c ∈ w, 0 ≤ c ∧ c ≤ i
theorem LI.nil : LI 0 [] := ⟨rfl, fun c hc => absurd hc List.not_mem_nil⟩
theorem LJ.nil (i : Nat) : LJ i 0 [] false := ⟨rfl, fun c hc => absurd hc List.not_mem_nil⟩
theorem LI.at {i : Nat} {v : List Int} (h : LI i v) {j : Nat} (hj : j < v.length) : 0 ≤ v.getD j default ∧ v.getD j default < i := h.rng _ (getD_mem hj)
theorem LJ.one {i j : Nat} {w v : List Int} {d : Bool} (h : LJ i j w d) (hv : LI i v) {m : Nat} (hm : m < v.length) : LJ i (j + 1) (w ++ [v.getD m default]) d := by
  refine ⟨by rw [List.length_append, h.len, List.length_singleton]; omega, fun a ha => ?_⟩
  rcases List.mem_append.1 ha with ha | ha
  · exact h.rng a ha
  · rw [List.mem_singleton.1 ha]; have := hv.at hm; omega
theorem LJ.both {i j : Nat} {w v : List Int} {d : Bool} (h : LJ i j w d) (hd : d = false) (hv : LI i v) {m : Nat} (hm : m < v.length) : LJ i (j + 1) ((w ++ [((i : Nat) : Int)]) ++ [v.getD m default]) true := by
  subst hd
  have hl := h.len
  simp only [cond_false] at hl
  refine ⟨by simp only [List.length_append, List.length_singleton, cond_true]; omega, fun a ha => ?_⟩
  rcases List.mem_append.1 ha with ha | ha
  · rcases List.mem_append.1 ha with ha | ha
    · exact h.rng a ha
    · rw [List.mem_singleton.1 ha]; omega
  · rw [List.mem_singleton.1 ha]; have := hv.at hm; omega
theorem LJ.fin {i : Nat} {w v : List Int} {d : Bool} (h : LJ i v.length w d) (hd : d = false) (hv : LI i v) : LI (i + 1) (w ++ [((i : Nat) : Int)]) := by
  subst hd
  have hl := h.len
  have h2 := hv.len
  simp only [cond_false] at hl
  refine ⟨by simp only [List.length_append, List.length_singleton]; omega, fun a ha => ?_⟩
  rcases List.mem_append.1 ha with ha | ha
  · have := h.rng a ha; omega
  · rw [List.mem_singleton.1 ha]; omega
theorem LJ.done {i : Nat} {w v : List Int} {d : Bool} (h : LJ i v.length w d) (hd : d = true) (hv : LI i v) : LI (i + 1) w := by
  subst hd
  have hl := h.len
  have h2 := hv.len
  simp only [cond_true] at hl
  exact ⟨by omega, fun a ha => by have := h.rng a ha; omega⟩
theorem LJ.bd {i j : Nat} {w : List Int} {d : Bool} (h : LJ i j w d) : w.length ≤ j + 1 := by
  have := h.len
  cases d <;> simp only [cond_true, cond_false] at this <;> omega
def C91 (R : (List Int)) : LV × List (Nat × BC) := (.own 0, [(0, .arr 1 R.length (rowOf (cInt .i64) R))])
def l11Order (x0 : List Int) : (List Int) := loopN (fun i1 (v1 : (List Int)) nx1 => loopN (fun i2 (v2 : (List Int) × Bool) next => bif ((!v2.2) && (decide ((x0.getD i1 default) < (x0.getD ((v1.getD i2 default).toNat) default)))) then (next (((v2.1 ++ [((i1 : Nat) : Int)]) ++ [(v1.getD i2 default)]), true)) else (next ((v2.1 ++ [(v1.getD i2 default)]), v2.2))) (fun (v2 : (List Int) × Bool) => bif (!v2.2) then (nx1 (v2.1 ++ [((i1 : Nat) : Int)])) else (nx1 v2.1)) v1.length 0 (([] : List Int), false)) (fun (v1 : (List Int)) => v1) x0.length 0 ([] : List Int)
def D91b1 (x0 : List Int) (i1 : Nat) (v1 : (List Int)) : Dl := ⟨[(12, .int .i64 ((i1 : Nat) : Int)), (3, .own 20003)], [(20003, .arr 1 v1.length (rowOf (cInt .i64) v1))]⟩
def D91b2 (x0 : List Int) (i1 : Nat) (v1 : (List Int)) (i2 : Nat) (v2 : (List Int) × Bool) : Dl := ⟨[(18, .int .i64 ((i2 : Nat) : Int)), (5, .own 20005), (6, .bool v2.2)], [(20005, .arr 1 v2.1.length (rowOf (cInt .i64) v2.1))]⟩
def A91b2 (x0 : List Int) (i1 : Nat) (v1 : (List Int)) (i2 : Nat) (v2 : (List Int) × Bool) : Ann := r0 1 [0, 2, 3, 4, 5, 6, 11, 12, 16, 17, 18, 19] [20003, 20005] (cn (decide (((i2 : Nat) : Int) < ((v1.length : Nat) : Int))) (r1 1 [0, 2, 3, 4, 5, 6, 8, 11, 12, 16, 17, 18] [20003, 20005] [pf (0 ≤ (((i2 : Nat) : Int) : Int) ∧ (((i2 : Nat) : Int) : Int) < ((v1.length : Nat) : Int))] [0] (.reg 1 [] [] [0, 2, 3, 4, 5, 6, 8, 11, 12, 16, 17, 18, 34] [20003, 20005] [!v2.2] [gt (!v2.2) (pf (0 ≤ (((i1 : Nat) : Int) : Int) ∧ (((i1 : Nat) : Int) : Int) < ((x0.length : Nat) : Int))), gt (!v2.2) (pf (0 ≤ ((v1.getD i2 default) : Int) ∧ ((v1.getD i2 default) : Int) < ((x0.length : Nat) : Int)))] [] [1, 1, 0, 1, 1, 1, 4, 1, 1, 1, 1] (cn ((!v2.2) && (decide ((x0.getD i1 default) < (x0.getD ((v1.getD i2 default).toNat) default)))) (.reg 1 [] [(2, bsC 37 (cInt .i64) ([((i1 : Nat) : Int)] : List Int)), (3, ap1 38 (cInt .i64) 8 v2.1 ((i1 : Nat) : Int))] [0, 2, 3, 4, 5, 6, 8, 11, 12, 16, 17, 18] [38, 20003] [] [] [] [0, 4] (r0 1 [0, 2, 3, 4, 5, 6, 8, 11, 12, 16, 17, 18] [38, 20003] (.reg 1 [] [(2, bsC 41 (cInt .i64) ([(v1.getD i2 default)] : List Int)), (3, ap1 42 (cInt .i64) 8 (v2.1 ++ [((i1 : Nat) : Int)]) (v1.getD i2 default))] [0, 2, 3, 4, 5, 6, 11, 12, 16, 17, 18] [42, 20003] [] [] [] [0, 4] (r1 1 [0, 2, 3, 4, 5, 6, 11, 12, 16, 17, 18] [42, 20003] [pf (inR .i64 (((i2 : Nat) : Int) + 1))] [0] (.next 0 [(20005, some 42)] (D91b2 x0 i1 v1 (i2 + 1) (((v2.1 ++ [((i1 : Nat) : Int)]) ++ [(v1.getD i2 default)]), true))))))) (.reg 1 [] [(2, bsC 41 (cInt .i64) ([(v1.getD i2 default)] : List Int)), (3, ap1 42 (cInt .i64) 8 v2.1 (v1.getD i2 default))] [0, 2, 3, 4, 5, 6, 11, 12, 16, 17, 18] [42, 20003] [] [] [] [0, 4] (r1 1 [0, 2, 3, 4, 5, 6, 11, 12, 16, 17, 18] [42, 20003] [pf (inR .i64 (((i2 : Nat) : Int) + 1))] [0] (.next 0 [(20005, some 42)] (D91b2 x0 i1 v1 (i2 + 1) ((v2.1 ++ [(v1.getD i2 default)]), v2.2)))))))) (r0 1 [0, 2, 3, 4, 5, 11, 12, 45] [20003, 20005] (cn (!v2.2) (.reg 1 [] [(2, bsC 48 (cInt .i64) ([((i1 : Nat) : Int)] : List Int)), (3, ap1 49 (cInt .i64) 8 v2.1 ((i1 : Nat) : Int))] [0, 2, 3, 5, 11, 12] [49, 20003] [] [] [] [0, 4] (r0 1 [0, 2, 3, 11, 12] [49] (r1 1 [0, 2, 3, 11, 12] [49] [pf (inR .i64 (((i1 : Nat) : Int) + 1))] [0] (.next 1 [(20003, some 49)] (D91b1 x0 (i1 + 1) (v2.1 ++ [((i1 : Nat) : Int)])))))) (r0 1 [0, 2, 3, 11, 12] [20005] (r1 1 [0, 2, 3, 11, 12] [20005] [pf (inR .i64 (((i1 : Nat) : Int) + 1))] [0] (.next 1 [(20003, some 20005)] (D91b1 x0 (i1 + 1) v2.1)))))))
def A91b1 (x0 : List Int) (i1 : Nat) (v1 : (List Int)) : Ann := r0 1 [0, 2, 3, 11, 12, 13] [20003] (cn (decide (((i1 : Nat) : Int) < ((x0.length : Nat) : Int))) (.reg 3 [] [(1000, bsC 15 (cInt .i64) ([] : List Int))] [0, 2, 3, 4, 5, 6, 11, 12] [15, 20003] [] [] [] [0] (r0 1 [0, 2, 3, 4, 5, 6, 11, 12, 16, 17, 18] [15, 20003] (lp (D91b2 x0 i1 v1) [] [15] [(20005, some 15)] (D91b2 x0 i1 v1 0 (([] : List Int), false)) (A91b2 x0 i1 v1)))) (r0 1 [2] [20003] (rt [(0, some 20003)] (C91 v1))))
def A91 (x0 : List Int) : Ann := .reg 2 [] [(1000, bsC 9 (cInt .i64) ([] : List Int))] [0, 2, 3] [9] [] [] [] [0] (r0 1 [0, 2, 3, 11, 12] [9] (lp (D91b1 x0) [] [9] [(20003, some 9)] (D91b1 x0 0 ([] : List Int)) (A91b1 x0)))
theorem ok_spec_l11Order (x0 : List Int) (hx : x0.length ≤ 1000) : FnT Try.prog 91 [.ro false 1 x0.length (rowOf (cInt .i64) x0)] (C91 (l11Order x0)) := by
  have aux : ∀ R, l11Order x0 = R → slim (C91 R) (A91 x0) [] := by
    intro R hR
    refine rg ⟨trivial, trivial⟩ ?_
    refine rg trivial ?_
    revert hR; refine lN (fun i v => LI i v) (by (exact LI.nil)) rfl fun i1 v1 F1 hn1 hI1 hR hK1 => ?_
    refine rg trivial ?_
    refine ⟨fun hc1 => ?_, fun hc1 => ?_⟩
    · have hii1 : i1 < x0.length := by have := of_decide_eq_true hc1; omega
      replace hR := loopN_step hR hii1
      refine rg ⟨trivial, trivial⟩ ?_
      refine rg trivial ?_
      revert hR; refine lN (fun i v => LJ i1 i v.1 v.2) (by (exact LJ.nil _)) rfl fun i2 v2 F2 hn2 hI2 hR hK2 => ?_
      refine rg trivial ?_
      refine ⟨fun hc2 => ?_, fun hc2 => ?_⟩
      · have hii2 : i2 < v1.length := by have := of_decide_eq_true hc2; omega
        replace hR := loopN_step hR hii2
        refine rg ⟨by (intros; omega), trivial⟩ ?_
        refine rg ⟨by (intros; omega), by (have h9 := hI1.at hii2; omega), trivial⟩ ?_
        revert hR; refine cd (fun hc3 hR => ?_) fun hc3 hR => ?_
        ·
          refine rg ⟨trivial, by (have h9 := hI2.bd; have h8 := hI1.len; (try simp only [List.length_append, List.length_singleton]); omega), trivial⟩ ?_
          refine rg trivial ?_
          refine rg ⟨trivial, by (have h9 := hI2.bd; have h8 := hI1.len; (try simp only [List.length_append, List.length_singleton]); omega), trivial⟩ ?_
          refine rg ⟨by ((try clear hR hK1 hK2); intros; (try simp only [decide_eq_true_eq, decide_eq_false_iff_not, Bool.or_eq_true, Bool.and_eq_true, or_f_iff, not_f_iff, not_t_iff, Bool.not_eq_true', inR] at *); (repeat' apply And.intro) <;> (first | (intros; omega) | (have h9 := hI2.bd; have h8 := hI1.len; (try simp only [List.length_append, List.length_singleton]); omega))), trivial⟩ ?_
          exact hK2 (((v2.1 ++ [((i1 : Nat) : Int)]) ++ [(v1.getD i2 default)]), true) hii2 (by (exact hI2.both (by simp only [Bool.and_eq_true, Bool.not_eq_true'] at hc3; exact hc3.1) hI1 hii2)) hR
        ·
          refine rg ⟨trivial, by (have h9 := hI2.bd; have h8 := hI1.len; (try simp only [List.length_append, List.length_singleton]); omega), trivial⟩ ?_
          refine rg ⟨by ((try clear hR hK1 hK2); intros; (try simp only [decide_eq_true_eq, decide_eq_false_iff_not, Bool.or_eq_true, Bool.and_eq_true, or_f_iff, not_f_iff, not_t_iff, Bool.not_eq_true', inR] at *); (repeat' apply And.intro) <;> (first | (intros; omega) | (have h9 := hI2.bd; have h8 := hI1.len; (try simp only [List.length_append, List.length_singleton]); omega))), trivial⟩ ?_
          exact hK2 ((v2.1 ++ [(v1.getD i2 default)]), v2.2) hii2 (by (exact hI2.one hI1 hii2)) hR
      · obtain rfl : i2 = v1.length := by have := of_decide_eq_false hc2; omega
        replace hR := loopN_end hR (Nat.lt_irrefl _)
        refine rg trivial ?_
        revert hR; refine cd (fun hc4 hR => ?_) fun hc4 hR => ?_
        ·
          refine rg ⟨trivial, by (have h9 := hI2.bd; have h8 := hI1.len; (try simp only [List.length_append, List.length_singleton]); omega), trivial⟩ ?_
          refine rg trivial ?_
          refine rg ⟨by ( intros; simp only [inR]; omega), trivial⟩ ?_
          exact hK1 (v2.1 ++ [((i1 : Nat) : Int)]) hii1 (by (exact hI2.fin (by simpa using hc4) hI1)) hR
        ·
          refine rg trivial ?_
          refine rg ⟨by ( intros; simp only [inR]; omega), trivial⟩ ?_
          exact hK1 v2.1 hii1 (by (exact hI2.done (by simpa using hc4) hI1)) hR
    · obtain rfl : i1 = x0.length := by have := of_decide_eq_false hc1; omega
      replace hR := loopN_end hR (Nat.lt_irrefl _)
      refine rg trivial ?_
      exact congrArg C91 hR
  exact Fn.go 53 Try.func91 (by kernel_rfl) (by kernel_rfl) (by simp [C91, Frs, FrsL, FrsB, rowOf, cInt, cBool, cStr, cSl, FrsL_app, cPerson, cUnion, cFamily]) (A91 x0) (by kernel_rfl) (aux _ rfl)
def k91 (x0 : List Int) : Cl := (hres (C91 (l11Order x0)), k1 (ok_spec_l11Order x0))
end Go.Proofs.Ytepefimocflfkaa
