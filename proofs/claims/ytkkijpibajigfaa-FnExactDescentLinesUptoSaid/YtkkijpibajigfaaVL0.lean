import Derived.Test.YtkkijpibajigfaaVS55
set_option maxHeartbeats 4000000
set_option linter.unusedSimpArgs false
set_option linter.unusedVariables false
namespace Go.Proofs.Ytkkijpibajigfaa
open Go Go.Lite Go.Proofs
/-! ### Numbers put into lists of lists -/
/-- How many numbers the first lists hold. -/
def tot (l : List (List Int)) (i : Nat) : Nat := ((l.take i).map List.length).sum
theorem tot_zero (l : List (List Int)) : tot l 0 = 0 := rfl
theorem tot_succ (l : List (List Int)) {i : Nat} (h : i < l.length) : tot l (i + 1) = tot l i + (l.getD i []).length := by
  unfold tot
  rw [take_snoc l [] h]
  simp
theorem eqIntSS_self (x : List (List Int)) : eqIntSS x x = true := by
  unfold eqIntSS
  refine cond_both (p := fun r => r = true) (fun c => by simp at c) (fun _ => ?_)
  exact loopN_inv (fun _ _ => True) (fun r => r = true) (fun i v next _ hn => cond_both (p := fun r => r = true) (fun c => by rw [eqIntS_self] at c; cases c) (fun _ => hn _ trivial)) (fun _ _ _ => rfl) _ _ _ trivial
theorem markIntSS_val (l : List (List Int)) (k : Int) : (markIntSS l k).1 = k + tot l l.length ∧ (markIntSS l k).2.length = l.length ∧ ∀ j : Nat, j < l.length → (markIntSS l k).2.getD j [] = (markIntS (l.getD j []) (k + tot l j)).2 := by
  unfold markIntSS
  refine loopW_to (fun (v : List (List Int) × Int × Int) => ∃ n : Nat, v.2.2 = n ∧ n ≤ l.length ∧ v.1.length = l.length ∧ v.2.1 = k + tot l n ∧ (∀ j : Nat, j < n → v.1.getD j [] = (markIntS (l.getD j []) (k + tot l j)).2) ∧ ∀ j : Nat, n ≤ j → v.1.getD j [] = l.getD j [])
    (fun v => ((v.1.length : Int) - v.2.2).toNat) (fun (r : Int × List (List Int)) => r.1 = k + tot l l.length ∧ r.2.length = l.length ∧ ∀ j : Nat, j < l.length → r.2.getD j [] = (markIntS (l.getD j []) (k + tot l j)).2) (fun v next hv hn => ?_) _ _ (by dsimp only; omega) ⟨0, rfl, Nat.zero_le _, rfl, by rw [tot_zero]; simp, fun j hj => absurd hj (Nat.not_lt_zero _), fun _ _ => rfl⟩
  obtain ⟨n, h1, h2, h3, h4, h5, h6⟩ := hv
  refine cond_both (p := fun (r : Int × List (List Int)) => r.1 = k + tot l l.length ∧ r.2.length = l.length ∧ ∀ j : Nat, j < l.length → r.2.getD j [] = (markIntS (l.getD j []) (k + tot l j)).2) (fun c => ?_) (fun c => ?_)
  · have c := of_decide_eq_true c
    have hnl : n < l.length := by omega
    have en : v.2.2.toNat = n := by omega
    refine hn _ ⟨n + 1, by simp only [h1]; omega, by omega, by simp only [List.length_set]; exact h3, ?_, fun j hj => ?_, fun j hj => ?_⟩ (by simp only [List.length_set]; omega)
    · simp only [en, h6 n (Nat.le_refl _), h4]
      rw [(markIntS_val _ _).1, tot_succ l hnl]
      omega
    · simp only [en]
      rw [getD_set]
      split
      · rename_i e; rw [e.1, h6 n (Nat.le_refl _), h4]
      · rename_i e; exact h5 j (by omega)
    · simp only [en]
      rw [getD_set]
      split
      · rename_i e; omega
      · exact h6 j (by omega)
  · have c := of_decide_eq_false c
    have e : n = l.length := by omega
    subst e
    exact ⟨h4, h3, h5⟩
theorem marked_bd {l : List (List Int)} {n : Nat} (h : ∀ y ∈ l, y.length ≤ n) (k : Int) : ∀ y ∈ (markIntSS l k).2, y.length ≤ n := fun y hy => by
  obtain ⟨j, hj, e⟩ := mem_getD (d := ([] : List Int)) hy
  obtain ⟨h1, h2, h3⟩ := markIntSS_val l k
  rw [h2] at hj
  rw [← e, h3 j hj, (markIntS_val _ _).2.1, List.getD_eq_getElem?_getD, List.getElem?_eq_getElem hj]
  exact h _ (List.getElem_mem hj)
theorem heldSS_mark (l : List (List Int)) {k : Int} (hk : 0 ≤ k) : heldIntSS (markIntSS l k).2 k = (markIntSS l k).1 := by
  obtain ⟨h1, h2, h3⟩ := markIntSS_val l k
  generalize (markIntSS l k).2 = r at h2 h3
  rw [h1]
  unfold heldIntSS
  rw [h2]
  refine loopN_to (fun i (v : Int) => v = k + tot l i) (fun (r : Int) => r = k + tot l l.length) (by rw [tot_zero]; simp) (fun i v next hi hv hn => ?_) (fun v hv => hv)
  have e : heldIntS (r.getD i default) v = k + tot l (i + 1) := by
    rw [show r.getD i default = r.getD i [] from rfl, h3 i hi, hv, held_mark, (markIntS_val _ _).1, tot_succ l hi]
    omega
  rw [e, decide_eq_false (by omega), cond_false]
  exact hn _ rfl
/-! ### What bars the unions -/
def C111 (R : Bool) : LV × List (Nat × BC) := (.bool R, [])
def lessInts (x0 : List Int) (x1 : List Int) : Bool := loopW (fun (v1 : Int) next => bif ((decide (v1 < ((x0.length : Nat) : Int))) && (decide (v1 < ((x1.length : Nat) : Int)))) then (bif (!decide ((x0.getD v1.toNat default) = (x1.getD v1.toNat default))) then (decide ((x0.getD v1.toNat default) < (x1.getD v1.toNat default))) else (next (v1 + 1))) else (decide (((x0.length : Nat) : Int) < ((x1.length : Nat) : Int)))) (((x0.length : Int) - 0).toNat + 1) 0
def D111b1 (x0 : List Int) (x1 : List Int) (v1 : Int) : Dl := ⟨[(5, .int .i64 v1)], []⟩
def A111b1 (x0 : List Int) (x1 : List Int) (v1 : Int) : Ann := .reg 1 [] [] [0, 1, 4, 5, 15] [] [decide (v1 < ((x0.length : Nat) : Int))] [] [] [1, 1, 1, 1] (cn ((decide (v1 < ((x0.length : Nat) : Int))) && (decide (v1 < ((x1.length : Nat) : Int)))) (r1 1 [0, 1, 4, 5, 26] [] [pf (0 ≤ (v1 : Int) ∧ (v1 : Int) < ((x0.length : Nat) : Int)), pf (0 ≤ (v1 : Int) ∧ (v1 : Int) < ((x1.length : Nat) : Int))] [0, 4] (cn (!decide ((x0.getD v1.toNat default) = (x1.getD v1.toNat default))) (r1 1 [0, 1, 4, 5] [] [pf (0 ≤ (v1 : Int) ∧ (v1 : Int) < ((x0.length : Nat) : Int)), pf (0 ≤ (v1 : Int) ∧ (v1 : Int) < ((x1.length : Nat) : Int))] [0, 4] (rt [] (C111 (decide ((x0.getD v1.toNat default) < (x1.getD v1.toNat default)))))) (r1 1 [0, 1, 4, 5] [] [pf (inR .i64 (v1 + 1))] [0] (.next 0 [] (D111b1 x0 x1 (v1 + 1)))))) (r0 1 [4] [] (rt [] (C111 (decide (((x0.length : Nat) : Int) < ((x1.length : Nat) : Int)))))))
def A111 (x0 : List Int) (x1 : List Int) : Ann := r0 1 [0, 1, 4] [] (r0 1 [0, 1, 4, 5] [] (.loop Int (D111b1 x0 x1) [] [] [] (D111b1 x0 x1 0) (A111b1 x0 x1)))
theorem ok_impl_lessInts (x0 : List Int) (x1 : List Int) (h0 : x0.length ≤ 1048576) (h1 : x1.length ≤ 1048576) : FnT Try.prog 111 [.ro false 1 x0.length (rowOf (cInt .i64) x0), .ro false 1 x1.length (rowOf (cInt .i64) x1)] (C111 (lessInts x0 x1)) := by
  have aux : ∀ R, lessInts x0 x1 = R → slim (C111 R) (A111 x0 x1) [] := by
    intro R hR
    refine rg trivial ?_
    refine rg trivial ?_
    revert hR; refine lW (fun v => 0 ≤ v ∧ v ≤ x0.length) (fun v => ((x0.length : Int) - v).toNat) (by (intros; omega)) (Nat.lt_succ_self _) rfl fun m1 v1 F1 hI1 hM1 hR hK1 => ?_
    refine rg trivial ?_
    revert hR; refine cd (fun hc1 hR => ?_) fun hc1 hR => ?_
    ·
      refine rg ⟨by (simp only [Bool.and_eq_true, decide_eq_true_eq] at hc1; (try simp only [inR]); omega), by (simp only [Bool.and_eq_true, decide_eq_true_eq] at hc1; (try simp only [inR]); omega), trivial⟩ ?_
      revert hR; refine cd (fun hc2 hR => ?_) fun hc2 hR => ?_
      ·
        refine rg ⟨by (simp only [Bool.and_eq_true, decide_eq_true_eq] at hc1; (try simp only [inR]); omega), by (simp only [Bool.and_eq_true, decide_eq_true_eq] at hc1; (try simp only [inR]); omega), trivial⟩ ?_
        exact congrArg C111 hR
      ·
        refine rg ⟨by ( intros; simp only [inR]; omega), trivial⟩ ?_
        exact hK1 (v1 + 1) (by (simp only [Bool.and_eq_true, decide_eq_true_eq] at hc1; (try simp only [inR]); omega)) (by (simp only [Bool.and_eq_true, decide_eq_true_eq] at hc1; (try simp only [inR]); omega)) hR
    ·
      refine rg trivial ?_
      exact congrArg C111 hR
  exact Fn.go 41 Try.func111 (by kernel_rfl) (by kernel_rfl) (by simp [C111, Frs, FrsL]) (A111 x0 x1) (by kernel_rfl) (aux _ rfl)
def k111 (x0 : List Int) (x1 : List Int) : Cl := (hres (C111 (lessInts x0 x1)), k2 (ok_impl_lessInts x0 x1))
def OkLL (l : List (List Int)) : Prop := ∀ y ∈ l, y.length ≤ 1000
theorem OkLL.at {l : List (List Int)} (h : OkLL l) (i : Int) : (l.getD i.toNat default).length ≤ 1000 := by
  rw [List.getD_eq_getElem?_getD]
  cases e : l[i.toNat]? with
  | none => exact Nat.zero_le _
  | some y => exact h y (List.mem_of_getElem? e)
theorem OkLL.sw {l l' : List (List Int)} (h : OkLL l) {a b : Int} (hs : Sw a b l l') (hab : 0 ≤ a ∧ b ≤ l.length) : OkLL l' := fun c hc => h c ((hs.perm hab.1 hab.2).mem_iff.1 hc)

def C110 (R : Bool) : LV × List (Nat × BC) := (.bool R, [])
def lineLess (x0 : Int) (x1 : Int) (x2 : List (List Int)) : Bool := lessInts (x2.getD x0.toNat default) (x2.getD x1.toNat default)
def A110 (x0 : Int) (x1 : Int) (x2 : List (List Int)) : Ann := .reg 2 [] [(1008, k111 (x2.getD x0.toNat default) (x2.getD x1.toNat default))] [5] [] [] [pf (0 ≤ (x0 : Int) ∧ (x0 : Int) < ((x2.length : Nat) : Int)), pf (0 ≤ (x1 : Int) ∧ (x1 : Int) < ((x2.length : Nat) : Int))] [] [0, 4, 8] (rt [] (C110 (lessInts (x2.getD x0.toNat default) (x2.getD x1.toNat default))))
structure SrtL where

  l : List (List Int)
  deriving Inhabited
def kswL (d : Nat) (ids : List Nat) (l : List (List Int)) (i j : Int) : Cl := (.resM d ids [(900000, .nest true 1 (swp l i j).length (nrOf (cInt .i64) (swp l i j)))] (.tup []), k2 (P := FnX Try.prog 151 [.int .i64 i, .int .i64 j, .own 900000, .k Try.prog.globals.size 47] [.nest true 1 l.length (nrOf (cInt .i64) l)] (.tup []) [(900000, .nest true 1 (swp l i j).length (nrOf (cInt .i64) (swp l i j)))])
  fun hi hj => FnX.swapN (b := false) Try.func151 (by kernel_rfl) (by kernel_rfl) (by kernel_rfl) (by rfl) (by kernel_rfl) (by kernel_rfl) (by kernel_rfl) hi hj)
def OkL (x : SrtL) : Prop := OkLL x.l

theorem ok_impl_linesDown_1 (x0 : Int) (x1 : Int) (x2 : List (List Int)) (h0 : 0 ≤ x0 ∧ x0 < x2.length) (h1 : 0 ≤ x1 ∧ x1 < x2.length) (hok : OkLL x2) : FnT Try.prog 110 [.int .i64 x0, .int .i64 x1, .ep [.ro false 1 x2.length (rowOf (cSl false 1 (cInt .i64)) x2)] 0] (C110 (lineLess x0 x1 x2)) := by
  have aux : ∀ R, lineLess x0 x1 x2 = R → slim (C110 R) (A110 x0 x1 x2) [] := by
    intro R hR
    refine rg ⟨by trivial, by trivial, ⟨by (have h8 := hok.at x0; have h9 := hok.at x1; omega), by (have h8 := hok.at x0; have h9 := hok.at x1; omega)⟩, trivial⟩ ?_
    exact congrArg C110 hR
  exact Fn.go 15 Try.func110 (by kernel_rfl) (by kernel_rfl) (by simp [C110, Frs, FrsL]) (A110 x0 x1 x2) (by kernel_rfl) (aux _ rfl)
def k110 (x0 : Int) (x1 : Int) (x2 : List (List Int)) : Cl := (hres (C110 (lineLess x0 x1 x2)), k3 (ok_impl_linesDown_1 x0 x1 x2))
end Go.Proofs.Ytkkijpibajigfaa
