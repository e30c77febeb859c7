import Derived.Test.YtaageiiodlfeiaaV20
set_option maxHeartbeats 4000000
set_option linter.unusedSimpArgs false
set_option linter.unusedVariables false
namespace Go.Proofs.Ytaageiiodlfeiaa
open Go Go.Lite Go.Proofs
theorem markPersonS_val (l : List Person) (k : Int) : (markPersonS l k).1 = k + 6 * l.length := by
  unfold markPersonS
  exact loopN_to (fun i (v : List Person × Int) => v.2 = k + 6 * i) (fun (r : Int × List Person) => r.1 = k + 6 * l.length) (by simp) (fun i v next hi hv hn => hn _ (by rw [hv]; simp only; omega)) (fun v hv => hv)
def C31 (x0 : Family) (x1 : Int) (R : Int × Family) : LV × List (Nat × BC) := (.int .i64 R.1, [(900000, .arr 6 R.2.people.length (rowOf (cPerson true) R.2.people)), (900001, .arr 4 R.2.unions.length (rowOf (cUnion true) R.2.unions))])
def markFamily (x0 : Family) (x1 : Int) : Int × Family := ((markUnionS x0.unions ((markPersonS x0.people x1).1)).1, (Family.mk ((markPersonS x0.people x1).2) ((markUnionS x0.unions ((markPersonS x0.people x1).1)).2)))
def A31 (x0 : Family) (x1 : Int) : Ann := .reg 4 [] [(1003, k70 8 [900000] x0.people x1), (2003, k71 12 [900001] x0.unions ((markPersonS x0.people x1).1))] [4] [900000, 900001] [] [] [] [0, 4] (rt [(900000, some 900000), (900001, some 900001)] (C31 x0 x1 ((markUnionS x0.unions ((markPersonS x0.people x1).1)).1, (Family.mk ((markPersonS x0.people x1).2) ((markUnionS x0.unions ((markPersonS x0.people x1).1)).2)))))
theorem ok_laws_markFamily (x0 : Family) (x1 : Int) (hx : x0.people.length ≤ 1048576) (hu : x0.unions.length ≤ 1048576) (hk : 0 ≤ x1 ∧ x1 ≤ 10000000) : FnMT Try.prog 31 [.agg [.own 900000, .own 900001], .int .i64 x1] [.arr 6 x0.people.length (rowOf (cPerson true) x0.people), .arr 4 x0.unions.length (rowOf (cUnion true) x0.unions)] (C31 x0 x1 (markFamily x0 x1)) := by
  have aux : ∀ R, markFamily x0 x1 = R → slim (C31 x0 x1 R) (A31 x0 x1) [] := by
    intro R hR
    refine rg ⟨⟨by trivial, by (intros; omega)⟩, ⟨by trivial, by (have := markPersonS_val x0.people x1; omega)⟩, trivial⟩ ?_
    exact congrArg (C31 x0 x1) hR
  exact FnM.go 14 Try.func31 (by kernel_rfl) (by kernel_rfl) (A31 x0 x1) (by kernel_rfl) (aux _ rfl)
def k31 (d : Nat) (ids : List Nat) (x0 : Family) (x1 : Int) : Cl := (hresM d ids (C31 x0 x1 (markFamily x0 x1)), k3 (ok_laws_markFamily x0 x1))
def C74 (R : Int) : LV × List (Nat × BC) := (.int .i64 R, [])
def heldPersonS (x0 : List Person) (x1 : Int) : Int := loopN (fun i1 (v1 : Int) next => bif (!(((x0.getD i1 default).name) == (markText v1))) then (-1) else (bif (!decide (((x0.getD i1 default).sex) = (v1 + 1))) then (-1) else (bif (!decide (((x0.getD i1 default).father) = ((v1 + 1) + 1))) then (-1) else (bif (!decide (((x0.getD i1 default).mother) = (((v1 + 1) + 1) + 1))) then (-1) else (bif (!decide (((x0.getD i1 default).born) = ((((v1 + 1) + 1) + 1) + 1))) then (-1) else (bif (!decide (((x0.getD i1 default).died) = (((((v1 + 1) + 1) + 1) + 1) + 1))) then (-1) else (next ((((((v1 + 1) + 1) + 1) + 1) + 1) + 1)))))))) (fun (v1 : Int) => v1) x0.length 0 x1
def D74b1 (x0 : List Person) (x1 : Int) (i1 : Nat) (v1 : Int) : Dl := ⟨[(5, .int .i64 ((i1 : Nat) : Int)), (1, .int .i64 v1)], []⟩
def A74b1 (x0 : List Person) (x1 : Int) (i1 : Nat) (v1 : Int) : Ann := r0 1 [0, 1, 4, 5, 9] [] (cn (decide (((i1 : Nat) : Int) < ((x0.length : Nat) : Int))) (.reg 1 [] [(6, k123 v1)] [0, 1, 4, 5, 19] [] [] [pf (0 ≤ (((i1 : Nat) : Int) : Int) ∧ (((i1 : Nat) : Int) : Int) < ((x0.length : Nat) : Int))] [] [0, 4] (cn (!(((x0.getD i1 default).name) == (markText v1))) (r0 1 [0, 1, 4, 5] [] (rt [] (C74 (-1)))) (r1 1 [0, 1, 4, 5] [] [pf (inR .i64 (v1 + 1))] [0] (r1 1 [0, 1, 4, 5, 28] [] [pf (0 ≤ (((i1 : Nat) : Int) : Int) ∧ (((i1 : Nat) : Int) : Int) < ((x0.length : Nat) : Int))] [0] (cn (!decide (((x0.getD i1 default).sex) = (v1 + 1))) (r0 1 [0, 1, 4, 5] [] (rt [] (C74 (-1)))) (r1 1 [0, 1, 4, 5] [] [pf (inR .i64 ((v1 + 1) + 1))] [0] (r1 1 [0, 1, 4, 5, 37] [] [pf (0 ≤ (((i1 : Nat) : Int) : Int) ∧ (((i1 : Nat) : Int) : Int) < ((x0.length : Nat) : Int))] [0] (cn (!decide (((x0.getD i1 default).father) = ((v1 + 1) + 1))) (r0 1 [0, 1, 4, 5] [] (rt [] (C74 (-1)))) (r1 1 [0, 1, 4, 5] [] [pf (inR .i64 (((v1 + 1) + 1) + 1))] [0] (r1 1 [0, 1, 4, 5, 46] [] [pf (0 ≤ (((i1 : Nat) : Int) : Int) ∧ (((i1 : Nat) : Int) : Int) < ((x0.length : Nat) : Int))] [0] (cn (!decide (((x0.getD i1 default).mother) = (((v1 + 1) + 1) + 1))) (r0 1 [0, 1, 4, 5] [] (rt [] (C74 (-1)))) (r1 1 [0, 1, 4, 5] [] [pf (inR .i64 ((((v1 + 1) + 1) + 1) + 1))] [0] (r1 1 [0, 1, 4, 5, 55] [] [pf (0 ≤ (((i1 : Nat) : Int) : Int) ∧ (((i1 : Nat) : Int) : Int) < ((x0.length : Nat) : Int))] [0] (cn (!decide (((x0.getD i1 default).born) = ((((v1 + 1) + 1) + 1) + 1))) (r0 1 [0, 1, 4, 5] [] (rt [] (C74 (-1)))) (r1 1 [0, 1, 4, 5] [] [pf (inR .i64 (((((v1 + 1) + 1) + 1) + 1) + 1))] [0] (r1 1 [0, 1, 4, 5, 64] [] [pf (0 ≤ (((i1 : Nat) : Int) : Int) ∧ (((i1 : Nat) : Int) : Int) < ((x0.length : Nat) : Int))] [0] (cn (!decide (((x0.getD i1 default).died) = (((((v1 + 1) + 1) + 1) + 1) + 1))) (r0 1 [0, 1, 4, 5] [] (rt [] (C74 (-1)))) (r1 1 [0, 1, 4, 5] [] [pf (inR .i64 ((((((v1 + 1) + 1) + 1) + 1) + 1) + 1))] [0] (r1 1 [0, 1, 4, 5] [] [pf (inR .i64 (((i1 : Nat) : Int) + 1))] [0] (.next 0 [] (D74b1 x0 x1 (i1 + 1) ((((((v1 + 1) + 1) + 1) + 1) + 1) + 1)))))))))))))))))))))) (r0 1 [4] [] (rt [] (C74 v1))))
def A74 (x0 : List Person) (x1 : Int) : Ann := r0 1 [0, 1, 4] [] (r0 1 [0, 1, 4, 5] [] (lp (D74b1 x0 x1) [] [] [] (D74b1 x0 x1 0 x1) (A74b1 x0 x1)))
theorem heldPersonS_rng (l : List Person) (k : Int) (hk : 0 ≤ k) : -1 ≤ heldPersonS l k ∧ heldPersonS l k ≤ k + 6 * l.length := by
  unfold heldPersonS
  refine loopN_to (fun i (v : Int) => v = k + 6 * i) (fun (r : Int) => -1 ≤ r ∧ r ≤ k + 6 * l.length) (by simp) (fun i v next hi hv hn => ?_) (fun v hv => by omega)
  have q : ∀ c : Bool, ∀ X : Int, (-1 ≤ X ∧ X ≤ k + 6 * l.length) → (-1 ≤ (bif c then (-1) else X) ∧ (bif c then (-1) else X) ≤ k + 6 * l.length) := fun c X hX => by cases c <;> simp only [cond_true, cond_false] <;> omega
  repeat' apply q
  exact hn _ (by omega)
theorem ok_laws_heldPersonS (x0 : List Person) (x1 : Int) (hx : x0.length ≤ 1048576) (hk : 0 ≤ x1 ∧ x1 ≤ 30000000) : FnT Try.prog 74 [.ro false 6 x0.length (rowOf (cPerson false) x0), .int .i64 x1] (C74 (heldPersonS x0 x1)) := by
  have aux : ∀ R, heldPersonS x0 x1 = R → slim (C74 R) (A74 x0 x1) [] := by
    intro R hR
    refine rg trivial ?_
    refine rg trivial ?_
    revert hR; refine lN (fun i v => v = x1 + 6 * i) (by (intros; omega)) rfl fun i1 v1 F1 hn1 hI1 hR hK1 => ?_
    refine rg trivial ?_
    refine ⟨fun hc1 => ?_, fun hc1 => ?_⟩
    · have hii1 : i1 < x0.length := by have := of_decide_eq_true hc1; omega
      replace hR := loopN_step hR hii1
      refine rg ⟨by (intros; omega), by (intros; omega), trivial⟩ ?_
      revert hR; refine cd (fun hc2 hR => ?_) fun hc2 hR => ?_
      ·
        refine rg trivial ?_
        exact congrArg C74 hR
      ·
        refine rg ⟨by ( intros; simp only [inR]; omega), trivial⟩ ?_
        refine rg ⟨by (intros; omega), trivial⟩ ?_
        revert hR; refine cd (fun hc3 hR => ?_) fun hc3 hR => ?_
        ·
          refine rg trivial ?_
          exact congrArg C74 hR
        ·
          refine rg ⟨by ( intros; simp only [inR]; omega), trivial⟩ ?_
          refine rg ⟨by (intros; omega), trivial⟩ ?_
          revert hR; refine cd (fun hc4 hR => ?_) fun hc4 hR => ?_
          ·
            refine rg trivial ?_
            exact congrArg C74 hR
          ·
            refine rg ⟨by ( intros; simp only [inR]; omega), trivial⟩ ?_
            refine rg ⟨by (intros; omega), trivial⟩ ?_
            revert hR; refine cd (fun hc5 hR => ?_) fun hc5 hR => ?_
            ·
              refine rg trivial ?_
              exact congrArg C74 hR
            ·
              refine rg ⟨by ( intros; simp only [inR]; omega), trivial⟩ ?_
              refine rg ⟨by (intros; omega), trivial⟩ ?_
              revert hR; refine cd (fun hc6 hR => ?_) fun hc6 hR => ?_
              ·
                refine rg trivial ?_
                exact congrArg C74 hR
              ·
                refine rg ⟨by ( intros; simp only [inR]; omega), trivial⟩ ?_
                refine rg ⟨by (intros; omega), trivial⟩ ?_
                revert hR; refine cd (fun hc7 hR => ?_) fun hc7 hR => ?_
                ·
                  refine rg trivial ?_
                  exact congrArg C74 hR
                ·
                  refine rg ⟨by ( intros; simp only [inR]; omega), trivial⟩ ?_
                  refine rg ⟨by ( intros; simp only [inR]; omega), trivial⟩ ?_
                  exact hK1 ((((((v1 + 1) + 1) + 1) + 1) + 1) + 1) hii1 (by (intros; omega)) hR
    · obtain rfl : i1 = x0.length := by have := of_decide_eq_false hc1; omega
      replace hR := loopN_end hR (Nat.lt_irrefl _)
      refine rg trivial ?_
      exact congrArg C74 hR
  exact Fn.go 68 Try.func74 (by kernel_rfl) (by kernel_rfl) (by simp [C74, Frs, FrsL]) (A74 x0 x1) (by kernel_rfl) (aux _ rfl)
def k74 (x0 : List Person) (x1 : Int) : Cl := (hres (C74 (heldPersonS x0 x1)), k2 (ok_laws_heldPersonS x0 x1))
def C75 (R : Int) : LV × List (Nat × BC) := (.int .i64 R, [])
def heldUnionS (x0 : List Union) (x1 : Int) : Int := loopN (fun i1 (v1 : Int) next => bif (!decide (((x0.getD i1 default).man) = v1)) then (-1) else (bif (!decide (((x0.getD i1 default).woman) = (v1 + 1))) then (-1) else (bif (!decide (((x0.getD i1 default).from0) = ((v1 + 1) + 1))) then (-1) else (bif (!decide (((x0.getD i1 default).to) = (((v1 + 1) + 1) + 1))) then (-1) else (next ((((v1 + 1) + 1) + 1) + 1)))))) (fun (v1 : Int) => v1) x0.length 0 x1
def D75b1 (x0 : List Union) (x1 : Int) (i1 : Nat) (v1 : Int) : Dl := ⟨[(5, .int .i64 ((i1 : Nat) : Int)), (1, .int .i64 v1)], []⟩
def A75b1 (x0 : List Union) (x1 : Int) (i1 : Nat) (v1 : Int) : Ann := r0 1 [0, 1, 4, 5, 9] [] (cn (decide (((i1 : Nat) : Int) < ((x0.length : Nat) : Int))) (r1 1 [0, 1, 4, 5, 18] [] [pf (0 ≤ (((i1 : Nat) : Int) : Int) ∧ (((i1 : Nat) : Int) : Int) < ((x0.length : Nat) : Int))] [0] (cn (!decide (((x0.getD i1 default).man) = v1)) (r0 1 [0, 1, 4, 5] [] (rt [] (C75 (-1)))) (r1 1 [0, 1, 4, 5] [] [pf (inR .i64 (v1 + 1))] [0] (r1 1 [0, 1, 4, 5, 27] [] [pf (0 ≤ (((i1 : Nat) : Int) : Int) ∧ (((i1 : Nat) : Int) : Int) < ((x0.length : Nat) : Int))] [0] (cn (!decide (((x0.getD i1 default).woman) = (v1 + 1))) (r0 1 [0, 1, 4, 5] [] (rt [] (C75 (-1)))) (r1 1 [0, 1, 4, 5] [] [pf (inR .i64 ((v1 + 1) + 1))] [0] (r1 1 [0, 1, 4, 5, 36] [] [pf (0 ≤ (((i1 : Nat) : Int) : Int) ∧ (((i1 : Nat) : Int) : Int) < ((x0.length : Nat) : Int))] [0] (cn (!decide (((x0.getD i1 default).from0) = ((v1 + 1) + 1))) (r0 1 [0, 1, 4, 5] [] (rt [] (C75 (-1)))) (r1 1 [0, 1, 4, 5] [] [pf (inR .i64 (((v1 + 1) + 1) + 1))] [0] (r1 1 [0, 1, 4, 5, 45] [] [pf (0 ≤ (((i1 : Nat) : Int) : Int) ∧ (((i1 : Nat) : Int) : Int) < ((x0.length : Nat) : Int))] [0] (cn (!decide (((x0.getD i1 default).to) = (((v1 + 1) + 1) + 1))) (r0 1 [0, 1, 4, 5] [] (rt [] (C75 (-1)))) (r1 1 [0, 1, 4, 5] [] [pf (inR .i64 ((((v1 + 1) + 1) + 1) + 1))] [0] (r1 1 [0, 1, 4, 5] [] [pf (inR .i64 (((i1 : Nat) : Int) + 1))] [0] (.next 0 [] (D75b1 x0 x1 (i1 + 1) ((((v1 + 1) + 1) + 1) + 1)))))))))))))))) (r0 1 [4] [] (rt [] (C75 v1))))
def A75 (x0 : List Union) (x1 : Int) : Ann := r0 1 [0, 1, 4] [] (r0 1 [0, 1, 4, 5] [] (lp (D75b1 x0 x1) [] [] [] (D75b1 x0 x1 0 x1) (A75b1 x0 x1)))
theorem ok_laws_heldUnionS (x0 : List Union) (x1 : Int) (hx : x0.length ≤ 1048576) (hk : 0 ≤ x1 ∧ x1 ≤ 30000000) : FnT Try.prog 75 [.ro false 4 x0.length (rowOf (cUnion false) x0), .int .i64 x1] (C75 (heldUnionS x0 x1)) := by
  have aux : ∀ R, heldUnionS x0 x1 = R → slim (C75 R) (A75 x0 x1) [] := by
    intro R hR
    refine rg trivial ?_
    refine rg trivial ?_
    revert hR; refine lN (fun i v => v = x1 + 4 * i) (by (intros; omega)) rfl fun i1 v1 F1 hn1 hI1 hR hK1 => ?_
    refine rg trivial ?_
    refine ⟨fun hc1 => ?_, fun hc1 => ?_⟩
    · have hii1 : i1 < x0.length := by have := of_decide_eq_true hc1; omega
      replace hR := loopN_step hR hii1
      refine rg ⟨by (intros; omega), trivial⟩ ?_
      revert hR; refine cd (fun hc2 hR => ?_) fun hc2 hR => ?_
      ·
        refine rg trivial ?_
        exact congrArg C75 hR
      ·
        refine rg ⟨by ( intros; simp only [inR]; omega), trivial⟩ ?_
        refine rg ⟨by (intros; omega), trivial⟩ ?_
        revert hR; refine cd (fun hc3 hR => ?_) fun hc3 hR => ?_
        ·
          refine rg trivial ?_
          exact congrArg C75 hR
        ·
          refine rg ⟨by ( intros; simp only [inR]; omega), trivial⟩ ?_
          refine rg ⟨by (intros; omega), trivial⟩ ?_
          revert hR; refine cd (fun hc4 hR => ?_) fun hc4 hR => ?_
          ·
            refine rg trivial ?_
            exact congrArg C75 hR
          ·
            refine rg ⟨by ( intros; simp only [inR]; omega), trivial⟩ ?_
            refine rg ⟨by (intros; omega), trivial⟩ ?_
            revert hR; refine cd (fun hc5 hR => ?_) fun hc5 hR => ?_
            ·
              refine rg trivial ?_
              exact congrArg C75 hR
            ·
              refine rg ⟨by ( intros; simp only [inR]; omega), trivial⟩ ?_
              refine rg ⟨by ( intros; simp only [inR]; omega), trivial⟩ ?_
              exact hK1 ((((v1 + 1) + 1) + 1) + 1) hii1 (by (intros; omega)) hR
    · obtain rfl : i1 = x0.length := by have := of_decide_eq_false hc1; omega
      replace hR := loopN_end hR (Nat.lt_irrefl _)
      refine rg trivial ?_
      exact congrArg C75 hR
  exact Fn.go 49 Try.func75 (by kernel_rfl) (by kernel_rfl) (by simp [C75, Frs, FrsL]) (A75 x0 x1) (by kernel_rfl) (aux _ rfl)
def k75 (x0 : List Union) (x1 : Int) : Cl := (hres (C75 (heldUnionS x0 x1)), k2 (ok_laws_heldUnionS x0 x1))
def C33 (R : Int) : LV × List (Nat × BC) := (.int .i64 R, [])
def heldFamily (x0 : Family) (x1 : Int) : Int := bif (decide ((heldPersonS x0.people x1) < 0)) then (-1) else (bif (decide ((heldUnionS x0.unions (heldPersonS x0.people x1)) < 0)) then (-1) else (heldUnionS x0.unions (heldPersonS x0.people x1)))
def A33 (x0 : Family) (x1 : Int) : Ann := .reg 2 [] [(1003, k74 x0.people x1)] [1, 2, 4] [2] [] [] [] [0] (r0 1 [1, 2, 4, 10] [2] (cn (decide ((heldPersonS x0.people x1) < 0)) (r0 1 [1, 2, 4] [2] (rt [] (C33 (-1)))) (.reg 1 [] [(3, k75 x0.unions (heldPersonS x0.people x1))] [1, 4] [] [] [] [] [0] (r0 1 [1, 4, 16] [] (cn (decide ((heldUnionS x0.unions (heldPersonS x0.people x1)) < 0)) (r0 1 [1, 4] [] (rt [] (C33 (-1)))) (r0 1 [4] [] (rt [] (C33 (heldUnionS x0.unions (heldPersonS x0.people x1))))))))))
theorem ok_laws_heldFamily (x0 : Family) (x1 : Int) (hx : x0.people.length ≤ 1048576) (hu : x0.unions.length ≤ 1048576) (hk : 0 ≤ x1 ∧ x1 ≤ 10000000) : FnT Try.prog 33 [.agg (cFamily false x0), .int .i64 x1] (C33 (heldFamily x0 x1)) := by
  have aux : ∀ R, heldFamily x0 x1 = R → slim (C33 R) (A33 x0 x1) [] := by
    intro R hR
    refine rg ⟨⟨by trivial, by (intros; omega)⟩, trivial⟩ ?_
    refine rg trivial ?_
    revert hR; refine cd (fun hc1 hR => ?_) fun hc1 hR => ?_
    ·
      refine rg trivial ?_
      exact congrArg C33 hR
    ·
      refine rg ⟨⟨by trivial, by (have h9 := heldPersonS_rng x0.people x1 (by omega); have h8 := of_decide_eq_false hc1; omega)⟩, trivial⟩ ?_
      refine rg trivial ?_
      revert hR; refine cd (fun hc2 hR => ?_) fun hc2 hR => ?_
      ·
        refine rg trivial ?_
        exact congrArg C33 hR
      ·
        refine rg trivial ?_
        exact congrArg C33 hR
  exact Fn.go 18 Try.func33 (by kernel_rfl) (by kernel_rfl) (by simp [C33, Frs, FrsL]) (A33 x0 x1) (by kernel_rfl) (aux _ rfl)
def k33 (x0 : Family) (x1 : Int) : Cl := (hres (C33 (heldFamily x0 x1)), k3 (ok_laws_heldFamily x0 x1))
end Go.Proofs.Ytaageiiodlfeiaa
