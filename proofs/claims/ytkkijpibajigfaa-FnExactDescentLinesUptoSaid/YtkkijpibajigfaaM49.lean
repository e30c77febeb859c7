import Derived.Test.YtkkijpibajigfaaV20
set_option maxHeartbeats 4000000
set_option linter.unusedSimpArgs false
set_option linter.unusedVariables false
namespace Go.Proofs.Ytkkijpibajigfaa
open Go Go.Lite Go.Proofs
theorem markIntS_val (l : List Int) (k : Int) : (markIntS l k).1 = k + l.length ∧ (markIntS l k).2.length = l.length ∧ ∀ i : Nat, i < l.length → (markIntS l k).2.getD i default = k + i := by
  unfold markIntS
  refine loopN_to (fun i (v : List Int × Int) => v.1.length = l.length ∧ v.2 = k + i ∧ ∀ j : Nat, j < i → v.1.getD j default = k + j) (fun (r : Int × List Int) => r.1 = k + l.length ∧ r.2.length = l.length ∧ ∀ i : Nat, i < l.length → r.2.getD i default = k + i) ⟨rfl, by simp, fun j hj => absurd hj (Nat.not_lt_zero _)⟩ (fun i v next hi hv hn => hn _ ⟨by simp [hv.1], by rw [hv.2.1]; simp only; omega, fun j hj => ?_⟩) (fun v hv => ⟨hv.2.1, hv.1, hv.2.2⟩)
  rw [getD_set]
  split
  · rename_i e; rw [e.1, hv.2.1]
  · rename_i e; exact hv.2.2 j (by have := hv.1; omega)
theorem heldIntS_of (l : List Int) (k : Int) (h : ∀ i : Nat, i < l.length → l.getD i default = k + i) : heldIntS l k = k + l.length := by
  unfold heldIntS
  refine loopN_to (fun i (v : Int) => v = k + i) (fun (r : Int) => r = k + l.length) (by simp) (fun i v next hi hv hn => ?_) (fun v hv => hv)
  rw [hv, h i hi]
  simp only [decide_true, Bool.not_true, cond_false]
  exact hn _ (by omega)
theorem held_mark (l : List Int) (k : Int) : heldIntS (markIntS l k).2 k = (markIntS l k).1 := by
  obtain ⟨h1, h2, h3⟩ := markIntS_val l k
  rw [heldIntS_of _ _ (by rw [h2]; exact h3), h1, h2]
theorem markPersonS_val (l : List Person) (k : Int) : (markPersonS l k).1 = k + 6 * l.length := by
  unfold markPersonS
  exact loopN_to (fun i (v : List Person × Int) => v.2 = k + 6 * i) (fun (r : Int × List Person) => r.1 = k + 6 * l.length) (by simp) (fun i v next hi hv hn => hn _ (by rw [hv]; simp only; omega)) (fun v hv => hv)
theorem markUnionS_val (l : List Union) (k : Int) : (markUnionS l k).1 = k + 4 * l.length := by
  unfold markUnionS
  exact loopN_to (fun i (v : List Union × Int) => v.2 = k + 4 * i) (fun (r : Int × List Union) => r.1 = k + 4 * l.length) (by simp) (fun i v next hi hv hn => hn _ (by rw [hv]; simp only; omega)) (fun v hv => hv)
def C30 (x0 : Family) (x1 : Int) (R : Int × Family) : LV × List (Nat × BC) := (.int .i64 R.1, [(900000, .arr 6 R.2.people.length (rowOf (cPerson true) R.2.people)), (900001, .arr 4 R.2.unions.length (rowOf (cUnion true) R.2.unions))])
def markFamily (x0 : Family) (x1 : Int) : Int × Family := ((markUnionS x0.unions ((markPersonS x0.people x1).1)).1, (Family.mk ((markPersonS x0.people x1).2) ((markUnionS x0.unions ((markPersonS x0.people x1).1)).2)))
def A30 (x0 : Family) (x1 : Int) : Ann := .reg 4 [] [(1003, k64 8 [900000] x0.people x1), (2003, k65 12 [900001] x0.unions ((markPersonS x0.people x1).1))] [4] [900000, 900001] [] [] [] [0, 4] (rt [(900000, some 900000), (900001, some 900001)] (C30 x0 x1 ((markUnionS x0.unions ((markPersonS x0.people x1).1)).1, (Family.mk ((markPersonS x0.people x1).2) ((markUnionS x0.unions ((markPersonS x0.people x1).1)).2)))))
theorem ok_laws_markFamily (x0 : Family) (x1 : Int) (hx : x0.people.length ≤ 1048576) (hu : x0.unions.length ≤ 1048576) (hk : 0 ≤ x1 ∧ x1 ≤ 10000000) : FnMT Try.prog 30 [.agg [.own 900000, .own 900001], .int .i64 x1] [.arr 6 x0.people.length (rowOf (cPerson true) x0.people), .arr 4 x0.unions.length (rowOf (cUnion true) x0.unions)] (C30 x0 x1 (markFamily x0 x1)) := by
  have aux : ∀ R, markFamily x0 x1 = R → slim (C30 x0 x1 R) (A30 x0 x1) [] := by
    intro R hR
    refine rg ⟨⟨by trivial, by (intros; omega)⟩, ⟨by trivial, by (have := markPersonS_val x0.people x1; omega)⟩, trivial⟩ ?_
    exact congrArg (C30 x0 x1) hR
  exact FnM.go 14 Try.func30 (by kernel_rfl) (by kernel_rfl) (A30 x0 x1) (by kernel_rfl) (aux _ rfl)
def k30 (d : Nat) (ids : List Nat) (x0 : Family) (x1 : Int) : Cl := (hresM d ids (C30 x0 x1 (markFamily x0 x1)), k3 (ok_laws_markFamily x0 x1))
/-! ### Ways up -/
theorem Up.head {x : Family} {p q : Int} {n : Nat} (h : Up x p n q) : (n = 0 ∧ q = p) ∨ ∃ r m, r ∈ l1Parents x p ∧ n = m + 1 ∧ Up x r m q := by
  induction h with
  | zero => exact .inl ⟨rfl, rfl⟩
  | @step n a q h hq ih =>
    rcases ih with ⟨e1, e2⟩ | ⟨r, m, h1, h2, h3⟩
    · subst e1; subst e2; exact .inr ⟨q, 0, hq, rfl, .zero⟩
    · exact .inr ⟨r, m + 1, h1, by omega, .step h3 hq⟩
theorem Up.cons {x : Family} {p r q : Int} {n : Nat} (hr : r ∈ l1Parents x p) (h : Up x r n q) : Up x p (n + 1) q := by
  induction h with
  | zero => exact .step .zero hr
  | step _ hq ih => exact .step ih hq
def Above (x : Family) (p q : Int) : Prop := ∃ n, Up x p n q
theorem Above.self (x : Family) (p : Int) : Above x p p := ⟨0, .zero⟩
theorem Above.cons {x : Family} {p r q : Int} (hr : r ∈ l1Parents x p) : Above x r q → Above x p q := fun ⟨n, h⟩ => ⟨n + 1, h.cons hr⟩
theorem Above.head {x : Family} {p q : Int} : Above x p q → q = p ∨ ∃ r, r ∈ l1Parents x p ∧ Above x r q := fun ⟨n, h⟩ => by
  rcases h.head with ⟨_, e⟩ | ⟨r, m, h1, _, h3⟩
  · exact .inl e
  · exact .inr ⟨r, h1, m, h3⟩
theorem above_iff {x : Family} (hf : specIsFamily x = true) {p : Int} (hp : 0 ≤ p ∧ p < x.people.length) {q : Int} (hq : 0 ≤ q ∧ q < x.people.length) : 0 ≤ (l8Up x p).getD q.toNat default ↔ Above x p q := by
  have hd := l8Up_dist x p (isFamily_par x hf) hp
  have hq2 : q.toNat < x.people.length := by omega
  constructor
  · intro h
    have := (hd.yes q.toNat hq2 h).1
    rw [show ((q.toNat : Nat) : Int) = q by omega] at this
    exact ⟨_, this⟩
  · rintro ⟨n, h⟩
    rcases Int.lt_or_le ((l8Up x p).getD q.toNat default) 0 with c | c
    · exact absurd (show Up x p n ((q.toNat : Nat) : Int) by rw [show ((q.toNat : Nat) : Int) = q by omega]; exact h) ((hd.no q.toNat hq2 c).2 n)
    · exact c
theorem Above.rng {x : Family} (hf : specIsFamily x = true) {p : Int} (hp : 0 ≤ p ∧ p < x.people.length) {q : Int} : Above x p q → 0 ≤ q ∧ q < x.people.length ∧ q ≤ p := fun ⟨n, h⟩ => by
  have := h.rng (isFamily_par x hf) hp; omega
end Go.Proofs.Ytkkijpibajigfaa
