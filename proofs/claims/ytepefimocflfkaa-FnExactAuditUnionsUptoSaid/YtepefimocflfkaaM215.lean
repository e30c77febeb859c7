import Derived.Test.YtepefimocflfkaaVS57
set_option maxHeartbeats 4000000
set_option linter.unusedSimpArgs false
set_option linter.unusedVariables false
namespace Go.Proofs.Ytepefimocflfkaa
open Go Go.Lite Go.Proofs
/-! ### Numbers put into lists of lists -/
/-- How many numbers the first lists hold. -/
def tot (l : List (List Int)) (i : Nat) : Nat := ((l.take i).map List.length).sum
theorem tot_zero (l : List (List Int)) : tot l 0 = 0 := rfl
theorem tot_succ (l : List (List Int)) {i : Nat} (h : i < l.length) : tot l (i + 1) = tot l i + (l.getD i []).length := by
  unfold tot
  rw [take_snoc l [] h]
  simp
theorem eqIntSS_self (x : List (List Int)) : eqIntSS x x = true := by
  unfold eqIntSS
  refine cond_both (p := fun r => r = true) (fun c => by simp at c) (fun _ => ?_)
  exact loopN_inv (fun _ _ => True) (fun r => r = true) (fun i v next _ hn => cond_both (p := fun r => r = true) (fun c => by rw [eqIntS_self] at c; cases c) (fun _ => hn _ trivial)) (fun _ _ _ => rfl) _ _ _ trivial
theorem markIntSS_val (l : List (List Int)) (k : Int) : (markIntSS l k).1 = k + tot l l.length ∧ (markIntSS l k).2.length = l.length ∧ ∀ j : Nat, j < l.length → (markIntSS l k).2.getD j [] = (markIntS (l.getD j []) (k + tot l j)).2 := by
  unfold markIntSS
  refine loopW_to (fun (v : List (List Int) × Int × Int) => ∃ n : Nat, v.2.2 = n ∧ n ≤ l.length ∧ v.1.length = l.length ∧ v.2.1 = k + tot l n ∧ (∀ j : Nat, j < n → v.1.getD j [] = (markIntS (l.getD j []) (k + tot l j)).2) ∧ ∀ j : Nat, n ≤ j → v.1.getD j [] = l.getD j [])
    (fun v => ((v.1.length : Int) - v.2.2).toNat) (fun (r : Int × List (List Int)) => r.1 = k + tot l l.length ∧ r.2.length = l.length ∧ ∀ j : Nat, j < l.length → r.2.getD j [] = (markIntS (l.getD j []) (k + tot l j)).2) (fun v next hv hn => ?_) _ _ (by dsimp only; omega) ⟨0, rfl, Nat.zero_le _, rfl, by rw [tot_zero]; simp, fun j hj => absurd hj (Nat.not_lt_zero _), fun _ _ => rfl⟩
  obtain ⟨n, h1, h2, h3, h4, h5, h6⟩ := hv
  refine cond_both (p := fun (r : Int × List (List Int)) => r.1 = k + tot l l.length ∧ r.2.length = l.length ∧ ∀ j : Nat, j < l.length → r.2.getD j [] = (markIntS (l.getD j []) (k + tot l j)).2) (fun c => ?_) (fun c => ?_)
  · have c := of_decide_eq_true c
    have hnl : n < l.length := by omega
    have en : v.2.2.toNat = n := by omega
    refine hn _ ⟨n + 1, by simp only [h1]; omega, by omega, by simp only [List.length_set]; exact h3, ?_, fun j hj => ?_, fun j hj => ?_⟩ (by simp only [List.length_set]; omega)
    · simp only [en, h6 n (Nat.le_refl _), h4]
      rw [(markIntS_val _ _).1, tot_succ l hnl]
      omega
    · simp only [en]
      rw [getD_set]
      split
      · rename_i e; rw [e.1, h6 n (Nat.le_refl _), h4]
      · rename_i e; exact h5 j (by omega)
    · simp only [en]
      rw [getD_set]
      split
      · rename_i e; omega
      · exact h6 j (by omega)
  · have c := of_decide_eq_false c
    have e : n = l.length := by omega
    subst e
    exact ⟨h4, h3, h5⟩
theorem marked_bd {l : List (List Int)} {n : Nat} (h : ∀ y ∈ l, y.length ≤ n) (k : Int) : ∀ y ∈ (markIntSS l k).2, y.length ≤ n := fun y hy => by
  obtain ⟨j, hj, e⟩ := mem_getD (d := ([] : List Int)) hy
  obtain ⟨h1, h2, h3⟩ := markIntSS_val l k
  rw [h2] at hj
  rw [← e, h3 j hj, (markIntS_val _ _).2.1, List.getD_eq_getElem?_getD, List.getElem?_eq_getElem hj]
  exact h _ (List.getElem_mem hj)
theorem heldSS_mark (l : List (List Int)) {k : Int} (hk : 0 ≤ k) : heldIntSS (markIntSS l k).2 k = (markIntSS l k).1 := by
  obtain ⟨h1, h2, h3⟩ := markIntSS_val l k
  generalize (markIntSS l k).2 = r at h2 h3
  rw [h1]
  unfold heldIntSS
  rw [h2]
  refine loopN_to (fun i (v : Int) => v = k + tot l i) (fun (r : Int) => r = k + tot l l.length) (by rw [tot_zero]; simp) (fun i v next hi hv hn => ?_) (fun v hv => hv)
  have e : heldIntS (r.getD i default) v = k + tot l (i + 1) := by
    rw [show r.getD i default = r.getD i [] from rfl, h3 i hi, hv, held_mark, (markIntS_val _ _).1, tot_succ l hi]
    omega
  rw [e, decide_eq_false (by omega), cond_false]
  exact hn _ rfl
/-! ### The unions' impediments -/
theorem specImp_core {x : Family} (hf : specIsFamily x = true) {l : Law} (hl : specIsLaw l = true) {p q : Int} (hp : 0 ≤ p ∧ p < x.people.length) (hq : 0 ≤ q ∧ q < x.people.length) (y : Int) : specImp x l p q y = impediments x l p q y := by
  unfold specImp
  rw [imp_core hf hp hq, hl, (l1Has_iff x p).2 ⟨hp, hf⟩, (l1Has_iff x q).2 ⟨hq, hf⟩]
  rfl
theorem audit_eq (x : Family) (l : Law) : implAudit x l = specAudit x l := by
  unfold implAudit specAudit
  rw [isFamily_eq, isLaw_eq, Bool.or_comm]
  cases c : ((!(specIsLaw l)) || (!(specIsFamily x))) with
  | true => rfl
  | false =>
    rw [or_f_iff, not_f_iff, not_f_iff] at c
    rw [cond_false, cond_false]
    refine loopN_rel0 (fun _ v w => v = w) (fun a b => a = b) rfl (fun i v w n1 n2 hi hv hn => ?_) (fun v w hv => hv)
    subst hv
    refine loopN_rel0 (fun j u z => u = z ∧ AuI x j u) (fun a b => a = b) ⟨rfl, List.nil_sublist _⟩ (fun j u z m1 m2 hj hu hm => ?_) (fun u z hu => ?_)
    · obtain ⟨rfl, hu⟩ := hu
      cases ((decide (((x.unions.getD j default).from0) < ((x.unions.getD i default).from0))) || ((decide (((x.unions.getD j default).from0) = ((x.unions.getD i default).from0))) && (decide (((j : Nat) : Int) < ((i : Nat) : Int))))) with
      | true => exact hm _ _ ⟨rfl, hu.snoc hj⟩
      | false => exact hm _ _ ⟨rfl, hu.skip hj⟩
    · obtain ⟨rfl, hu⟩ := hu
      have h8 := fam_u c.2 hi
      rw [specImp_core (hu.fam c.2) c.1 h8.man h8.woman]
      exact hn _ _ rfl
theorem audit_bd (x : Family) (l : Law) : (implAudit x l).length ≤ 60 ∧ ∀ y ∈ implAudit x l, y.length ≤ 13 := by
  unfold implAudit
  rw [isFamily_eq, isLaw_eq]
  cases c : ((!(specIsFamily x)) || (!(specIsLaw l))) with
  | true => exact ⟨Nat.zero_le _, fun y hy => absurd hy List.not_mem_nil⟩
  | false =>
    rw [or_f_iff, not_f_iff, not_f_iff] at c
    rw [cond_false]
    have hn60 := (fam_n c.1).2
    refine loopN_to (fun i (v : List (List Int)) => v.length = i ∧ ∀ y ∈ v, y.length ≤ 13) (fun (r : List (List Int)) => r.length ≤ 60 ∧ ∀ y ∈ r, y.length ≤ 13) ⟨rfl, fun y hy => absurd hy List.not_mem_nil⟩ (fun i v next hi hv hn => ?_) (fun v hv => ⟨by omega, hv.2⟩)
    refine loopN_to (fun j u => AuI x j u) (fun (r : List (List Int)) => r.length ≤ 60 ∧ ∀ y ∈ r, y.length ≤ 13) (List.nil_sublist _) (fun j u m1 hj hu hm => ?_) (fun u hu => ?_)
    · exact cond_both (p := fun (r : List (List Int)) => r.length ≤ 60 ∧ ∀ y ∈ r, y.length ≤ 13) (fun _ => hm _ (hu.snoc hj)) (fun _ => hm _ (hu.skip hj))
    · have h8 := fam_u c.1 hi
      refine hn _ ⟨by rw [List.length_append, hv.1]; rfl, fun y hy => ?_⟩
      rcases List.mem_append.1 hy with h | h
      · exact hv.2 y h
      · rw [List.mem_singleton.1 h]
        exact impediments_len (hu.fam c.1) h8.man h8.woman _ _
end Go.Proofs.Ytepefimocflfkaa
