import Derived.Test.YtanpfncfphpddabV47
set_option maxHeartbeats 4000000
set_option linter.unusedSimpArgs false
set_option linter.unusedVariables false
namespace Go.Proofs.Ytanpfncfphpddab
open Go Go.Lite Go.Proofs
def C30 (R : (List Int)) : LV × List (Nat × BC) := (.own 0, [(0, .arr 1 R.length (rowOf (cInt .i64) R))])
def specParents (x0 : Family) (x1 : Int) : (List Int) := bif (!(l1Has x0 x1)) then ([] : List Int) else (l1Parents x0 x1)
def A30 (x0 : Family) (x1 : Int) : Ann := r0 1 [1, 2, 4] [2] (.reg 1 [] [(2, k39 x0 x1)] [1, 2, 4, 8] [2] [] [] [] [0] (cn (!(l1Has x0 x1)) (r0 1 [1, 2, 4] [2] (rt [(0, none)] (C30 ([] : List Int)))) (.reg 1 [] [(2, k60 x0 x1)] [4] [1011] [] [] [] [0] (rt [(0, some 1011)] (C30 (l1Parents x0 x1))))))
theorem specParents_len (x : Family) (p : Int) : (specParents x p).length ≤ 2 := by
  unfold specParents
  exact cond_both (p := fun (r : List Int) => r.length ≤ 2) (fun _ => by simp) (fun _ => (l1Parents_rng x p).1)
theorem ok_spec_ParentsOf (x0 : Family) (x1 : Int) (hx : x0.people.length ≤ 1048576) (hu : x0.unions.length ≤ 1048576) (hn : ∀ p ∈ x0.people, p.name.length ≤ 1048576) : FnT Try.prog 30 [.agg (cFamily false x0), .int .i64 x1] (C30 (specParents x0 x1)) := by
  have aux : ∀ R, specParents x0 x1 = R → slim (C30 R) (A30 x0 x1) [] := by
    intro R hR
    refine rg trivial ?_
    refine rg ⟨⟨by trivial, by trivial, by trivial⟩, trivial⟩ ?_
    revert hR; refine cd (fun hc1 hR => ?_) fun hc1 hR => ?_
    ·
      refine rg trivial ?_
      exact congrArg C30 hR
    ·
      refine rg ⟨⟨by trivial, by (have h9 := (l1Has_iff x0 x1).1 (by simpa using hc1); omega)⟩, trivial⟩ ?_
      have hp1 := l1Parents_rng x0 x1
      exact congrArg C30 hR
  exact Fn.go 12 Try.func30 (by kernel_rfl) (by kernel_rfl) (by simp [C30, Frs, FrsL, FrsB, rowOf, cInt, cBool, cStr, cSl, FrsL_app, cPerson, cUnion, cFamily, cl01Cur]) (A30 x0 x1) (by kernel_rfl) (aux _ rfl)
def k30 (x0 : Family) (x1 : Int) : Cl := (hres (C30 (specParents x0 x1)), k3 (ok_spec_ParentsOf x0 x1))
def C29 (R : Bool) : LV × List (Nat × BC) := (.bool R, [])
def lawHas (x0 : List Int) (x1 : Int) : Bool := loopN (fun i1 (v1 : Unit) next => bif (decide (x1 = (x0.getD i1 default))) then true else (next ())) (fun (v1 : Unit) => false) x0.length 0 ()
def D29b1 (x0 : List Int) (x1 : Int) (i1 : Nat) (v1 : Unit) : Dl := ⟨[(9, .int .i64 ((i1 : Nat) : Int))], []⟩
def A29b1 (x0 : List Int) (x1 : Int) (i1 : Nat) (v1 : Unit) : Ann := r0 1 [1, 4, 7, 8, 9, 10] [] (cn (decide (((i1 : Nat) : Int) < ((x0.length : Nat) : Int))) (r1 2 [1, 4, 7, 8, 9, 15] [] [pf (0 ≤ (((i1 : Nat) : Int) : Int) ∧ (((i1 : Nat) : Int) : Int) < ((x0.length : Nat) : Int))] [0] (cn (decide (x1 = (x0.getD i1 default))) (r0 1 [1, 4, 7, 8, 9] [] (rt [] (C29 true))) (r1 1 [1, 4, 7, 8, 9] [] [pf (inR .i64 (((i1 : Nat) : Int) + 1))] [0] (.next 0 [] (D29b1 x0 x1 (i1 + 1) ()))))) (r0 1 [4] [] (rt [] (C29 false))))
def A29 (x0 : List Int) (x1 : Int) : Ann := r0 1 [0, 1, 4] [] (r0 1 [1, 4, 7, 8, 9] [] (lp (D29b1 x0 x1) [] [] [] (D29b1 x0 x1 0 ()) (A29b1 x0 x1)))
theorem ok_laws_has (x0 : List Int) (x1 : Int) (hx : x0.length ≤ 1048576) : FnT Try.prog 29 [.ro false 1 x0.length (rowOf (cInt .i64) x0), .int .i64 x1] (C29 (lawHas x0 x1)) := by
  have aux : ∀ R, lawHas x0 x1 = R → slim (C29 R) (A29 x0 x1) [] := by
    intro R hR
    refine rg trivial ?_
    refine rg trivial ?_
    revert hR; refine lN (fun i v => True) (by trivial) rfl fun i1 v1 F1 hn1 hI1 hR hK1 => ?_
    refine rg trivial ?_
    refine ⟨fun hc1 => ?_, fun hc1 => ?_⟩
    · have hii1 : i1 < x0.length := by have := of_decide_eq_true hc1; omega
      replace hR := loopN_step hR hii1
      refine rg ⟨by (intros; omega), trivial⟩ ?_
      revert hR; refine cd (fun hc2 hR => ?_) fun hc2 hR => ?_
      ·
        refine rg trivial ?_
        exact congrArg C29 hR
      ·
        refine rg ⟨by ( intros; simp only [inR]; omega), trivial⟩ ?_
        exact hK1 () hii1 (by trivial) hR
    · obtain rfl : i1 = x0.length := by have := of_decide_eq_false hc1; omega
      replace hR := loopN_end hR (Nat.lt_irrefl _)
      refine rg trivial ?_
      exact congrArg C29 hR
  exact Fn.go 17 Try.func29 (by kernel_rfl) (by kernel_rfl) (by simp [C29, Frs, FrsL]) (A29 x0 x1) (by kernel_rfl) (aux _ rfl)
def k29 (x0 : List Int) (x1 : Int) : Cl := (hres (C29 (lawHas x0 x1)), k1 (ok_laws_has x0 x1))
theorem fLoop_mem {n : Nat} {p : Nat → Bool} {f : Nat → Int} {y : Int} : y ∈ loopN (fun i (v : List Int) next => bif p i then next (v ++ [f i]) else next v) (fun v => v) n 0 [] ↔ ∃ i, i < n ∧ p i = true ∧ y = f i := by
  refine loopN_to (fun i (v : List Int) => y ∈ v ↔ ∃ k, k < i ∧ p k = true ∧ y = f k) (fun (r : List Int) => y ∈ r ↔ ∃ k, k < n ∧ p k = true ∧ y = f k) (by simp) (fun i v next hi hv hn => ?_) (fun v hv => hv)
  refine cond_both (p := fun (r : List Int) => y ∈ r ↔ ∃ k, k < n ∧ p k = true ∧ y = f k) (fun c => hn _ ?_) (fun c => hn _ ?_)
  · simp only [List.mem_append, List.mem_singleton, hv]
    constructor
    · rintro (⟨k, h1, h2, h3⟩ | h)
      · exact ⟨k, by omega, h2, h3⟩
      · exact ⟨i, by omega, c, h⟩
    · rintro ⟨k, h1, h2, h3⟩
      by_cases e : k = i
      · subst e; exact .inr h3
      · exact .inl ⟨k, by omega, h2, h3⟩
  · rw [hv]
    constructor
    · rintro ⟨k, h1, h2, h3⟩; exact ⟨k, by omega, h2, h3⟩
    · rintro ⟨k, h1, h2, h3⟩
      by_cases e : k = i
      · subst e; rw [c] at h2; cases h2
      · exact ⟨k, by omega, h2, h3⟩
theorem lawHas_iff (l : List Int) (y : Int) : lawHas l y = true ↔ y ∈ l := by
  unfold lawHas
  rw [loopN_any]
  constructor
  · rintro (⟨j, h1, h2⟩ | h)
    · rw [of_decide_eq_true h2]; exact getD_mem h1
    · cases h
  · intro h
    obtain ⟨k, h1, h2⟩ := mem_getD (d := default) h
    exact .inl ⟨k, h1, decide_eq_true h2.symm⟩
/-! ### Ways up -/
theorem Up.head {x : Family} {p q : Int} {n : Nat} (h : Up x p n q) : (n = 0 ∧ q = p) ∨ ∃ r m, r ∈ l1Parents x p ∧ n = m + 1 ∧ Up x r m q := by
  induction h with
  | zero => exact .inl ⟨rfl, rfl⟩
  | @step n a q h hq ih =>
    rcases ih with ⟨e1, e2⟩ | ⟨r, m, h1, h2, h3⟩
    · subst e1; subst e2; exact .inr ⟨q, 0, hq, rfl, .zero⟩
    · exact .inr ⟨r, m + 1, h1, by omega, .step h3 hq⟩
theorem Up.cons {x : Family} {p r q : Int} {n : Nat} (hr : r ∈ l1Parents x p) (h : Up x r n q) : Up x p (n + 1) q := by
  induction h with
  | zero => exact .step .zero hr
  | step _ hq ih => exact .step ih hq
def Above (x : Family) (p q : Int) : Prop := ∃ n, Up x p n q
theorem Above.self (x : Family) (p : Int) : Above x p p := ⟨0, .zero⟩
theorem Above.cons {x : Family} {p r q : Int} (hr : r ∈ l1Parents x p) : Above x r q → Above x p q := fun ⟨n, h⟩ => ⟨n + 1, h.cons hr⟩
theorem Above.head {x : Family} {p q : Int} : Above x p q → q = p ∨ ∃ r, r ∈ l1Parents x p ∧ Above x r q := fun ⟨n, h⟩ => by
  rcases h.head with ⟨_, e⟩ | ⟨r, m, h1, _, h3⟩
  · exact .inl e
  · exact .inr ⟨r, h1, m, h3⟩
theorem above_iff {x : Family} (hf : specIsFamily x = true) {p : Int} (hp : 0 ≤ p ∧ p < x.people.length) {q : Int} (hq : 0 ≤ q ∧ q < x.people.length) : 0 ≤ (l8Up x p).getD q.toNat default ↔ Above x p q := by
  have hd := l8Up_dist x p (isFamily_par x hf) hp
  have hq2 : q.toNat < x.people.length := by omega
  constructor
  · intro h
    have := (hd.yes q.toNat hq2 h).1
    rw [show ((q.toNat : Nat) : Int) = q by omega] at this
    exact ⟨_, this⟩
  · rintro ⟨n, h⟩
    rcases Int.lt_or_le ((l8Up x p).getD q.toNat default) 0 with c | c
    · exact absurd (show Up x p n ((q.toNat : Nat) : Int) by rw [show ((q.toNat : Nat) : Int) = q by omega]; exact h) ((hd.no q.toNat hq2 c).2 n)
    · exact c
theorem Above.rng {x : Family} (hf : specIsFamily x = true) {p : Int} (hp : 0 ≤ p ∧ p < x.people.length) {q : Int} : Above x p q → 0 ≤ q ∧ q < x.people.length ∧ q ≤ p := fun ⟨n, h⟩ => by
  have := h.rng (isFamily_par x hf) hp; omega
theorem l8Common_iff {x : Family} (hf : specIsFamily x = true) {a b : Int} (ha : 0 ≤ a ∧ a < x.people.length) (hb : 0 ≤ b ∧ b < x.people.length) (q : Int) : q ∈ l8Common x a b ↔ Above x a q ∧ Above x b q := by
  unfold l8Common
  rw [fLoop_mem (f := fun i => ((i : Nat) : Int))]
  have hl : (l8Up x a).length = x.people.length := (l8Up_dist x a (isFamily_par x hf) ha).len
  simp only [Bool.and_eq_true, decide_eq_true_eq]
  constructor
  · rintro ⟨i, h1, ⟨h2, h3⟩, rfl⟩
    have hi : i < x.people.length := by omega
    exact ⟨(above_iff hf ha (q := (i : Int)) ⟨by omega, by omega⟩).1 (by simpa using h2), (above_iff hf hb (q := (i : Int)) ⟨by omega, by omega⟩).1 (by simpa using h3)⟩
  · rintro ⟨h1, h2⟩
    have h3 := h1.rng hf ha
    exact ⟨q.toNat, by omega, ⟨(above_iff hf ha ⟨h3.1, h3.2.1⟩).2 h1, (above_iff hf hb ⟨h3.1, h3.2.1⟩).2 h2⟩, by omega⟩
end Go.Proofs.Ytanpfncfphpddab
