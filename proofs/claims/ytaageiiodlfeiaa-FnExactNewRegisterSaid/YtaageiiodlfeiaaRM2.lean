import Derived.Test.YtaageiiodlfeiaaRM1
set_option maxHeartbeats 4000000
set_option linter.unusedSimpArgs false
set_option linter.unusedVariables false
namespace Go.Proofs.Ytaageiiodlfeiaa
open Go Go.Lite Go.Proofs
def C125 (R : Int) : LV × List (Nat × BC) := (.int .i64 R, [])
def heldStepS (x0 : List Step) (x1 : Int) : Int := loopN (fun i1 (v1 : Int) next => bif (!decide (((x0.getD i1 default).kind) = v1)) then (-1) else (bif (!decide (((x0.getD i1 default).age) = (v1 + 1))) then (-1) else (next ((v1 + 1) + 1)))) (fun (v1 : Int) => v1) x0.length 0 x1
def D125b1 (x0 : List Step) (x1 : Int) (i1 : Nat) (v1 : Int) : Dl := ⟨[(5, .int .i64 ((i1 : Nat) : Int)), (1, .int .i64 v1)], []⟩
def A125b1 (x0 : List Step) (x1 : Int) (i1 : Nat) (v1 : Int) : Ann := r0 1 [0, 1, 4, 5, 9] [] (cn (decide (((i1 : Nat) : Int) < ((x0.length : Nat) : Int))) (r1 1 [0, 1, 4, 5, 18] [] [pf (0 ≤ (((i1 : Nat) : Int) : Int) ∧ (((i1 : Nat) : Int) : Int) < ((x0.length : Nat) : Int))] [0] (cn (!decide (((x0.getD i1 default).kind) = v1)) (r0 1 [0, 1, 4, 5] [] (rt [] (C125 (-1)))) (r1 1 [0, 1, 4, 5] [] [pf (inR .i64 (v1 + 1))] [0] (r1 1 [0, 1, 4, 5, 27] [] [pf (0 ≤ (((i1 : Nat) : Int) : Int) ∧ (((i1 : Nat) : Int) : Int) < ((x0.length : Nat) : Int))] [0] (cn (!decide (((x0.getD i1 default).age) = (v1 + 1))) (r0 1 [0, 1, 4, 5] [] (rt [] (C125 (-1)))) (r1 1 [0, 1, 4, 5] [] [pf (inR .i64 ((v1 + 1) + 1))] [0] (r1 1 [0, 1, 4, 5] [] [pf (inR .i64 (((i1 : Nat) : Int) + 1))] [0] (.next 0 [] (D125b1 x0 x1 (i1 + 1) ((v1 + 1) + 1)))))))))) (r0 1 [4] [] (rt [] (C125 v1))))
def A125 (x0 : List Step) (x1 : Int) : Ann := r0 1 [0, 1, 4] [] (r0 1 [0, 1, 4, 5] [] (lp (D125b1 x0 x1) [] [] [] (D125b1 x0 x1 0 x1) (A125b1 x0 x1)))
theorem heldStepS_rng (l : List Step) (k : Int) (hk : 0 ≤ k) : -1 ≤ heldStepS l k ∧ heldStepS l k ≤ k + 2 * l.length := by
  unfold heldStepS
  refine loopN_to (fun i (v : Int) => v = k + 2 * i) (fun (r : Int) => -1 ≤ r ∧ r ≤ k + 2 * l.length) (by simp) (fun i v next hi hv hn => ?_) (fun v hv => by omega)
  have q : ∀ c : Bool, ∀ X : Int, (-1 ≤ X ∧ X ≤ k + 2 * l.length) → (-1 ≤ (bif c then (-1) else X) ∧ (bif c then (-1) else X) ≤ k + 2 * l.length) := fun c X hX => by cases c <;> simp only [cond_true, cond_false] <;> omega
  repeat' apply q
  exact hn _ (by omega)
theorem ok_laws_heldStepS (x0 : List Step) (x1 : Int) (hx : x0.length ≤ 1048576) (hk : 0 ≤ x1 ∧ x1 ≤ 30000000) : FnT Try.prog 125 [.ro false 2 x0.length (rowOf (cStep false) x0), .int .i64 x1] (C125 (heldStepS x0 x1)) := by
  have aux : ∀ R, heldStepS x0 x1 = R → slim (C125 R) (A125 x0 x1) [] := by
    intro R hR
    refine rg trivial ?_
    refine rg trivial ?_
    revert hR; refine lN (fun i v => v = x1 + 2 * i) (by (intros; omega)) rfl fun i1 v1 F1 hn1 hI1 hR hK1 => ?_
    refine rg trivial ?_
    refine ⟨fun hc1 => ?_, fun hc1 => ?_⟩
    · have hii1 : i1 < x0.length := by have := of_decide_eq_true hc1; omega
      replace hR := loopN_step hR hii1
      refine rg ⟨by (intros; omega), trivial⟩ ?_
      revert hR; refine cd (fun hc2 hR => ?_) fun hc2 hR => ?_
      ·
        refine rg trivial ?_
        exact congrArg C125 hR
      ·
        refine rg ⟨by ( intros; simp only [inR]; omega), trivial⟩ ?_
        refine rg ⟨by (intros; omega), trivial⟩ ?_
        revert hR; refine cd (fun hc3 hR => ?_) fun hc3 hR => ?_
        ·
          refine rg trivial ?_
          exact congrArg C125 hR
        ·
          refine rg ⟨by ( intros; simp only [inR]; omega), trivial⟩ ?_
          refine rg ⟨by ( intros; simp only [inR]; omega), trivial⟩ ?_
          exact hK1 ((v1 + 1) + 1) hii1 (by (intros; omega)) hR
    · obtain rfl : i1 = x0.length := by have := of_decide_eq_false hc1; omega
      replace hR := loopN_end hR (Nat.lt_irrefl _)
      refine rg trivial ?_
      exact congrArg C125 hR
  exact Fn.go 31 Try.func125 (by kernel_rfl) (by kernel_rfl) (by simp [C125, Frs, FrsL]) (A125 x0 x1) (by kernel_rfl) (aux _ rfl)
def k125 (x0 : List Step) (x1 : Int) : Cl := (hres (C125 (heldStepS x0 x1)), k2 (ok_laws_heldStepS x0 x1))
def C76 (R : Int) : LV × List (Nat × BC) := (.int .i64 R, [])
def heldRuleS (x0 : List Rule) (x1 : Int) : Int := loopN (fun i1 (v1 : Int) next => bif (!(((x0.getD i1 default).name) == (markText v1))) then (-1) else (bif (!decide (((x0.getD i1 default).sex) = (v1 + 1))) then (-1) else (bif (!decide (((x0.getD i1 default).place) = ((v1 + 1) + 1))) then (-1) else (bif (decide ((heldStepS ((x0.getD i1 default).from0) (((v1 + 1) + 1) + 1)) < 0)) then (-1) else (bif (decide ((heldStepS ((x0.getD i1 default).to) (heldStepS ((x0.getD i1 default).from0) (((v1 + 1) + 1) + 1))) < 0)) then (-1) else (next (heldStepS ((x0.getD i1 default).to) (heldStepS ((x0.getD i1 default).from0) (((v1 + 1) + 1) + 1))))))))) (fun (v1 : Int) => v1) x0.length 0 x1
def D76b1 (x0 : List Rule) (x1 : Int) (i1 : Nat) (v1 : Int) : Dl := ⟨[(5, .int .i64 ((i1 : Nat) : Int)), (1, .int .i64 v1)], []⟩
def A76b1 (x0 : List Rule) (x1 : Int) (i1 : Nat) (v1 : Int) : Ann := r0 1 [0, 1, 4, 5, 9] [] (cn (decide (((i1 : Nat) : Int) < ((x0.length : Nat) : Int))) (.reg 1 [] [(6, k123 v1)] [0, 1, 4, 5, 19] [] [] [pf (0 ≤ (((i1 : Nat) : Int) : Int) ∧ (((i1 : Nat) : Int) : Int) < ((x0.length : Nat) : Int))] [] [0, 4] (cn (!(((x0.getD i1 default).name) == (markText v1))) (r0 1 [0, 1, 4, 5] [] (rt [] (C76 (-1)))) (r1 1 [0, 1, 4, 5] [] [pf (inR .i64 (v1 + 1))] [0] (r1 1 [0, 1, 4, 5, 28] [] [pf (0 ≤ (((i1 : Nat) : Int) : Int) ∧ (((i1 : Nat) : Int) : Int) < ((x0.length : Nat) : Int))] [0] (cn (!decide (((x0.getD i1 default).sex) = (v1 + 1))) (r0 1 [0, 1, 4, 5] [] (rt [] (C76 (-1)))) (r1 1 [0, 1, 4, 5] [] [pf (inR .i64 ((v1 + 1) + 1))] [0] (r1 1 [0, 1, 4, 5, 37] [] [pf (0 ≤ (((i1 : Nat) : Int) : Int) ∧ (((i1 : Nat) : Int) : Int) < ((x0.length : Nat) : Int))] [0] (cn (!decide (((x0.getD i1 default).place) = ((v1 + 1) + 1))) (r0 1 [0, 1, 4, 5] [] (rt [] (C76 (-1)))) (.reg 2 [] [(1006, k125 ((x0.getD i1 default).from0) (((v1 + 1) + 1) + 1))] [0, 1, 4, 5] [] [] [pf (inR .i64 (((v1 + 1) + 1) + 1)), pf (0 ≤ (((i1 : Nat) : Int) : Int) ∧ (((i1 : Nat) : Int) : Int) < ((x0.length : Nat) : Int))] [] [0, 4, 8] (r0 1 [0, 1, 4, 5, 48] [] (cn (decide ((heldStepS ((x0.getD i1 default).from0) (((v1 + 1) + 1) + 1)) < 0)) (r0 1 [0, 1, 4, 5] [] (rt [] (C76 (-1)))) (.reg 2 [] [(6, k125 ((x0.getD i1 default).to) (heldStepS ((x0.getD i1 default).from0) (((v1 + 1) + 1) + 1)))] [0, 1, 4, 5, 57] [] [] [pf (0 ≤ (((i1 : Nat) : Int) : Int) ∧ (((i1 : Nat) : Int) : Int) < ((x0.length : Nat) : Int))] [] [0, 4] (cn (decide ((heldStepS ((x0.getD i1 default).to) (heldStepS ((x0.getD i1 default).from0) (((v1 + 1) + 1) + 1))) < 0)) (r0 1 [0, 1, 4, 5] [] (rt [] (C76 (-1)))) (r1 1 [0, 1, 4, 5] [] [pf (inR .i64 (((i1 : Nat) : Int) + 1))] [0] (.next 0 [] (D76b1 x0 x1 (i1 + 1) (heldStepS ((x0.getD i1 default).to) (heldStepS ((x0.getD i1 default).from0) (((v1 + 1) + 1) + 1))))))))))))))))))) (r0 1 [4] [] (rt [] (C76 v1))))
def A76 (x0 : List Rule) (x1 : Int) : Ann := r0 1 [0, 1, 4] [] (r0 1 [0, 1, 4, 5] [] (lp (D76b1 x0 x1) [] [] [] (D76b1 x0 x1 0 x1) (A76b1 x0 x1)))
theorem ok_laws_heldRuleS (x0 : List Rule) (x1 : Int) (hr : x0.length ≤ 1000 ∧ ∀ r ∈ x0, r.from0.length ≤ 1000 ∧ r.to.length ≤ 1000) (hk : 0 ≤ x1 ∧ x1 ≤ 10000) : FnT Try.prog 76 [.ro false 5 x0.length (rowOf (cRule false) x0), .int .i64 x1] (C76 (heldRuleS x0 x1)) := by
  have aux : ∀ R, heldRuleS x0 x1 = R → slim (C76 R) (A76 x0 x1) [] := by
    intro R hR
    refine rg trivial ?_
    refine rg trivial ?_
    revert hR; refine lN (fun i v => 0 ≤ v ∧ v ≤ x1 + 4003 * i) (by (intros; omega)) rfl fun i1 v1 F1 hn1 hI1 hR hK1 => ?_
    refine rg trivial ?_
    refine ⟨fun hc1 => ?_, fun hc1 => ?_⟩
    · have hii1 : i1 < x0.length := by have := of_decide_eq_true hc1; omega
      replace hR := loopN_step hR hii1
      refine rg ⟨by (intros; omega), by (intros; omega), trivial⟩ ?_
      revert hR; refine cd (fun hc2 hR => ?_) fun hc2 hR => ?_
      ·
        refine rg trivial ?_
        exact congrArg C76 hR
      ·
        refine rg ⟨by (have h9 := hr.2 _ (getD_mem (d := default) hii1); (try have h6 := of_decide_eq_false hc4); (try have h6 := of_decide_eq_false hc2); (try have h5 := of_decide_eq_false hc5);  (try simp only [inR]); omega), trivial⟩ ?_
        refine rg ⟨by (intros; omega), trivial⟩ ?_
        revert hR; refine cd (fun hc3 hR => ?_) fun hc3 hR => ?_
        ·
          refine rg trivial ?_
          exact congrArg C76 hR
        ·
          refine rg ⟨by (have h9 := hr.2 _ (getD_mem (d := default) hii1); (try have h6 := of_decide_eq_false hc4); (try have h6 := of_decide_eq_false hc2); (try have h5 := of_decide_eq_false hc5);  (try simp only [inR]); omega), trivial⟩ ?_
          refine rg ⟨by (intros; omega), trivial⟩ ?_
          revert hR; refine cd (fun hc4 hR => ?_) fun hc4 hR => ?_
          ·
            refine rg trivial ?_
            exact congrArg C76 hR
          ·
            refine rg ⟨by (have h9 := hr.2 _ (getD_mem (d := default) hii1); (try have h6 := of_decide_eq_false hc4); (try have h6 := of_decide_eq_false hc2); (try have h5 := of_decide_eq_false hc5);  (try simp only [inR]); omega), by (intros; omega), ⟨by (have h9 := hr.2 _ (getD_mem (d := default) hii1); (try have h6 := of_decide_eq_false hc4); (try have h6 := of_decide_eq_false hc2); (try have h5 := of_decide_eq_false hc5);  (try simp only [inR]); omega), by (intros; omega)⟩, trivial⟩ ?_
            refine rg trivial ?_
            revert hR; refine cd (fun hc5 hR => ?_) fun hc5 hR => ?_
            ·
              refine rg trivial ?_
              exact congrArg C76 hR
            ·
              refine rg ⟨by (intros; omega), ⟨by (have h9 := hr.2 _ (getD_mem (d := default) hii1); (try have h6 := of_decide_eq_false hc4); (try have h6 := of_decide_eq_false hc2); (try have h5 := of_decide_eq_false hc5);  (try simp only [inR]); omega), by (have h9 := hr.2 _ (getD_mem (d := default) hii1); (try have h6 := of_decide_eq_false hc4); (try have h6 := of_decide_eq_false hc2); (try have h5 := of_decide_eq_false hc5); have h8 := heldStepS_rng (x0.getD i1 default).from0 (((v1 + 1) + 1) + 1) (by omega);  (try simp only [inR]); omega)⟩, trivial⟩ ?_
              revert hR; refine cd (fun hc6 hR => ?_) fun hc6 hR => ?_
              ·
                refine rg trivial ?_
                exact congrArg C76 hR
              ·
                refine rg ⟨by (have h9 := hr.2 _ (getD_mem (d := default) hii1); (try have h6 := of_decide_eq_false hc4); (try have h6 := of_decide_eq_false hc2); (try have h5 := of_decide_eq_false hc5);  (try simp only [inR]); omega), trivial⟩ ?_
                exact hK1 (heldStepS ((x0.getD i1 default).to) (heldStepS ((x0.getD i1 default).from0) (((v1 + 1) + 1) + 1))) hii1 (by ((try clear hR hK1); intros; (try simp only [decide_eq_true_eq, decide_eq_false_iff_not, Bool.or_eq_true, Bool.and_eq_true, or_f_iff, not_f_iff, not_t_iff, Bool.not_eq_true', inR] at *); (repeat' apply And.intro) <;> (first | (intros; omega) | (have h9 := hr.2 _ (getD_mem (d := default) hii1); (try have h6 := of_decide_eq_false hc4); (try have h6 := of_decide_eq_false hc2); (try have h5 := of_decide_eq_false hc5); have h8 := heldStepS_rng (x0.getD i1 default).from0 (((v1 + 1) + 1) + 1) (by omega); have h7 := heldStepS_rng (x0.getD i1 default).to (heldStepS (x0.getD i1 default).from0 (((v1 + 1) + 1) + 1)) (by omega);  (try simp only [inR]); omega)))) hR
    · obtain rfl : i1 = x0.length := by have := of_decide_eq_false hc1; omega
      replace hR := loopN_end hR (Nat.lt_irrefl _)
      refine rg trivial ?_
      exact congrArg C76 hR
  exact Fn.go 59 Try.func76 (by kernel_rfl) (by kernel_rfl) (by simp [C76, Frs, FrsL]) (A76 x0 x1) (by kernel_rfl) (aux _ rfl)
def k76 (x0 : List Rule) (x1 : Int) : Cl := (hres (C76 (heldRuleS x0 x1)), k2 (ok_laws_heldRuleS x0 x1))
def C77 (R : Int) : LV × List (Nat × BC) := (.int .i64 R, [])
def heldEntryS (x0 : List Entry) (x1 : Int) : Int := loopN (fun i1 (v1 : Int) next => bif (!decide ((((x0.getD i1 default).type).ego) = v1)) then (-1) else (bif (decide ((heldStepS (((x0.getD i1 default).type).steps) (v1 + 1)) < 0)) then (-1) else (bif (!(((x0.getD i1 default).term) == (markText (heldStepS (((x0.getD i1 default).type).steps) (v1 + 1))))) then (-1) else (next ((heldStepS (((x0.getD i1 default).type).steps) (v1 + 1)) + 1))))) (fun (v1 : Int) => v1) x0.length 0 x1
def D77b1 (x0 : List Entry) (x1 : Int) (i1 : Nat) (v1 : Int) : Dl := ⟨[(5, .int .i64 ((i1 : Nat) : Int)), (1, .int .i64 v1)], []⟩
def A77b1 (x0 : List Entry) (x1 : Int) (i1 : Nat) (v1 : Int) : Ann := r0 1 [0, 1, 4, 5, 9] [] (cn (decide (((i1 : Nat) : Int) < ((x0.length : Nat) : Int))) (r1 1 [0, 1, 4, 5, 19] [] [pf (0 ≤ (((i1 : Nat) : Int) : Int) ∧ (((i1 : Nat) : Int) : Int) < ((x0.length : Nat) : Int))] [0] (cn (!decide ((((x0.getD i1 default).type).ego) = v1)) (r0 1 [0, 1, 4, 5] [] (rt [] (C77 (-1)))) (.reg 2 [] [(1007, k125 (((x0.getD i1 default).type).steps) (v1 + 1))] [0, 1, 4, 5] [] [] [pf (inR .i64 (v1 + 1)), pf (0 ≤ (((i1 : Nat) : Int) : Int) ∧ (((i1 : Nat) : Int) : Int) < ((x0.length : Nat) : Int))] [] [0, 4, 8] (r0 1 [0, 1, 4, 5, 31] [] (cn (decide ((heldStepS (((x0.getD i1 default).type).steps) (v1 + 1)) < 0)) (r0 1 [0, 1, 4, 5] [] (rt [] (C77 (-1)))) (.reg 1 [] [(6, k123 (heldStepS (((x0.getD i1 default).type).steps) (v1 + 1)))] [0, 1, 4, 5, 39] [] [] [pf (0 ≤ (((i1 : Nat) : Int) : Int) ∧ (((i1 : Nat) : Int) : Int) < ((x0.length : Nat) : Int))] [] [0, 4] (cn (!(((x0.getD i1 default).term) == (markText (heldStepS (((x0.getD i1 default).type).steps) (v1 + 1))))) (r0 1 [0, 1, 4, 5] [] (rt [] (C77 (-1)))) (r1 1 [0, 1, 4, 5] [] [pf (inR .i64 ((heldStepS (((x0.getD i1 default).type).steps) (v1 + 1)) + 1))] [0] (r1 1 [0, 1, 4, 5] [] [pf (inR .i64 (((i1 : Nat) : Int) + 1))] [0] (.next 0 [] (D77b1 x0 x1 (i1 + 1) ((heldStepS (((x0.getD i1 default).type).steps) (v1 + 1)) + 1)))))))))))) (r0 1 [4] [] (rt [] (C77 v1))))
def A77 (x0 : List Entry) (x1 : Int) : Ann := r0 1 [0, 1, 4] [] (r0 1 [0, 1, 4, 5] [] (lp (D77b1 x0 x1) [] [] [] (D77b1 x0 x1 0 x1) (A77b1 x0 x1)))
theorem ok_laws_heldEntryS (x0 : List Entry) (x1 : Int) (hr : x0.length ≤ 1000 ∧ ∀ r ∈ x0, r.type.steps.length ≤ 1000) (hk : 0 ≤ x1 ∧ x1 ≤ 5000000) : FnT Try.prog 77 [.ro false 3 x0.length (rowOf (cEntry false) x0), .int .i64 x1] (C77 (heldEntryS x0 x1)) := by
  have aux : ∀ R, heldEntryS x0 x1 = R → slim (C77 R) (A77 x0 x1) [] := by
    intro R hR
    refine rg trivial ?_
    refine rg trivial ?_
    revert hR; refine lN (fun i v => 0 ≤ v ∧ v ≤ x1 + 4003 * i) (by (intros; omega)) rfl fun i1 v1 F1 hn1 hI1 hR hK1 => ?_
    refine rg trivial ?_
    refine ⟨fun hc1 => ?_, fun hc1 => ?_⟩
    · have hii1 : i1 < x0.length := by have := of_decide_eq_true hc1; omega
      replace hR := loopN_step hR hii1
      refine rg ⟨by (intros; omega), trivial⟩ ?_
      revert hR; refine cd (fun hc2 hR => ?_) fun hc2 hR => ?_
      ·
        refine rg trivial ?_
        exact congrArg C77 hR
      ·
        refine rg ⟨by (have h9 := hr.2 _ (getD_mem (d := default) hii1); (try have h6 := of_decide_eq_false hc4); (try have h6 := of_decide_eq_false hc2); (try have h5 := of_decide_eq_false hc5);  (try simp only [inR]); omega), by (intros; omega), ⟨by (have h9 := hr.2 _ (getD_mem (d := default) hii1); (try have h6 := of_decide_eq_false hc4); (try have h6 := of_decide_eq_false hc2); (try have h5 := of_decide_eq_false hc5);  (try simp only [inR]); omega), by (intros; omega)⟩, trivial⟩ ?_
        refine rg trivial ?_
        revert hR; refine cd (fun hc3 hR => ?_) fun hc3 hR => ?_
        ·
          refine rg trivial ?_
          exact congrArg C77 hR
        ·
          refine rg ⟨by (intros; omega), by (have h9 := hr.2 _ (getD_mem (d := default) hii1); (try have h6 := of_decide_eq_false hc4); (try have h6 := of_decide_eq_false hc2); (try have h5 := of_decide_eq_false hc5); have h8 := heldStepS_rng (x0.getD i1 default).type.steps (v1 + 1) (by omega);  (try simp only [inR]); omega), trivial⟩ ?_
          revert hR; refine cd (fun hc4 hR => ?_) fun hc4 hR => ?_
          ·
            refine rg trivial ?_
            exact congrArg C77 hR
          ·
            refine rg ⟨by (have h9 := hr.2 _ (getD_mem (d := default) hii1); (try have h6 := of_decide_eq_false hc4); (try have h6 := of_decide_eq_false hc2); (try have h5 := of_decide_eq_false hc5); have h8 := heldStepS_rng (x0.getD i1 default).type.steps (v1 + 1) (by omega);  (try simp only [inR]); omega), trivial⟩ ?_
            refine rg ⟨by (have h9 := hr.2 _ (getD_mem (d := default) hii1); (try have h6 := of_decide_eq_false hc4); (try have h6 := of_decide_eq_false hc2); (try have h5 := of_decide_eq_false hc5);  (try simp only [inR]); omega), trivial⟩ ?_
            exact hK1 ((heldStepS (((x0.getD i1 default).type).steps) (v1 + 1)) + 1) hii1 (by (have h9 := hr.2 _ (getD_mem (d := default) hii1); (try have h6 := of_decide_eq_false hc4); (try have h6 := of_decide_eq_false hc2); (try have h5 := of_decide_eq_false hc5); have h8 := heldStepS_rng (x0.getD i1 default).type.steps (v1 + 1) (by omega);  (try simp only [inR]); omega)) hR
    · obtain rfl : i1 = x0.length := by have := of_decide_eq_false hc1; omega
      replace hR := loopN_end hR (Nat.lt_irrefl _)
      refine rg trivial ?_
      exact congrArg C77 hR
  exact Fn.go 43 Try.func77 (by kernel_rfl) (by kernel_rfl) (by simp [C77, Frs, FrsL]) (A77 x0 x1) (by kernel_rfl) (aux _ rfl)
def k77 (x0 : List Entry) (x1 : Int) : Cl := (hres (C77 (heldEntryS x0 x1)), k2 (ok_laws_heldEntryS x0 x1))
end Go.Proofs.Ytaageiiodlfeiaa
