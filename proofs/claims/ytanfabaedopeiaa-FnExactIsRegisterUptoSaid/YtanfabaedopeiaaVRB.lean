import Derived.Test.YtanfabaedopeiaaVRA
set_option maxHeartbeats 4000000
set_option linter.unusedSimpArgs false
set_option linter.unusedVariables false
namespace Go.Proofs.Ytanfabaedopeiaa
open Go Go.Lite Go.Proofs
def C257 (R : Bool) : LV × List (Nat × BC) := (.bool R, [])
def eqStep (x0 : Step) (x1 : Step) : Bool := bif (!decide (x0.kind = x1.kind)) then false else (bif (!decide (x0.age = x1.age)) then false else true)
def A257 (x0 : Step) (x1 : Step) : Ann := r0 1 [2, 3, 4] [2, 3] (r0 1 [2, 3, 4, 9] [2, 3] (cn (!decide (x0.kind = x1.kind)) (r0 1 [2, 3, 4] [2, 3] (rt [] (C257 false))) (r0 1 [4, 14] [] (cn (!decide (x0.age = x1.age)) (r0 1 [4] [] (rt [] (C257 false))) (r0 1 [4] [] (rt [] (C257 true)))))))
theorem eqStep_self (x : Step) : eqStep x x = true := by
  simp [eqStep]
theorem ok_laws_eqStep (x0 : Step) (x1 : Step) : FnT Try.prog 257 [.agg (cStep false x0), .agg (cStep false x1)] (C257 (eqStep x0 x1)) := by
  have aux : ∀ R, eqStep x0 x1 = R → slim (C257 R) (A257 x0 x1) [] := by
    intro R hR
    refine rg trivial ?_
    refine rg trivial ?_
    revert hR; refine cd (fun hc1 hR => ?_) fun hc1 hR => ?_
    ·
      refine rg trivial ?_
      exact congrArg C257 hR
    ·
      refine rg trivial ?_
      revert hR; refine cd (fun hc2 hR => ?_) fun hc2 hR => ?_
      ·
        refine rg trivial ?_
        exact congrArg C257 hR
      ·
        refine rg trivial ?_
        exact congrArg C257 hR
  exact Fn.go 15 Try.func257 (by kernel_rfl) (by kernel_rfl) (by simp [C257, Frs, FrsL]) (A257 x0 x1) (by kernel_rfl) (aux _ rfl)
def k257 (x0 : Step) (x1 : Step) : Cl := (hres (C257 (eqStep x0 x1)), k0 (ok_laws_eqStep x0 x1))
def C218 (R : Bool) : LV × List (Nat × BC) := (.bool R, [])
def eqStepS (x0 : List Step) (x1 : List Step) : Bool := bif (!decide (((x0.length : Nat) : Int) = ((x1.length : Nat) : Int))) then false else (loopN (fun i1 (v1 : Unit) next => bif (!(eqStep (x0.getD i1 default) (x1.getD i1 default))) then false else (next ())) (fun (v1 : Unit) => true) x0.length 0 ())
def D218b1 (x0 : List Step) (x1 : List Step) (i1 : Nat) (v1 : Unit) : Dl := ⟨[(5, .int .i64 ((i1 : Nat) : Int))], []⟩
def A218b1 (x0 : List Step) (x1 : List Step) (i1 : Nat) (v1 : Unit) : Ann := r0 1 [0, 1, 4, 5, 14] [] (cn (decide (((i1 : Nat) : Int) < ((x0.length : Nat) : Int))) (.reg 1 [] [(8, k257 (x0.getD i1 default) (x1.getD i1 default))] [0, 1, 4, 5, 26] [] [] [pf (0 ≤ (((i1 : Nat) : Int) : Int) ∧ (((i1 : Nat) : Int) : Int) < ((x0.length : Nat) : Int)), pf (0 ≤ (((i1 : Nat) : Int) : Int) ∧ (((i1 : Nat) : Int) : Int) < ((x1.length : Nat) : Int))] [] [0, 4, 8] (cn (!(eqStep (x0.getD i1 default) (x1.getD i1 default))) (r0 1 [0, 1, 4, 5] [] (rt [] (C218 false))) (r1 1 [0, 1, 4, 5] [] [pf (inR .i64 (((i1 : Nat) : Int) + 1))] [0] (.next 0 [] (D218b1 x0 x1 (i1 + 1) ()))))) (r0 1 [4] [] (rt [] (C218 true))))
def A218 (x0 : List Step) (x1 : List Step) : Ann := r0 1 [0, 1, 4] [] (r0 1 [0, 1, 4, 10] [] (cn (!decide (((x0.length : Nat) : Int) = ((x1.length : Nat) : Int))) (r0 1 [0, 1, 4] [] (rt [] (C218 false))) (r0 1 [0, 1, 4, 5] [] (lp (D218b1 x0 x1) [] [] [] (D218b1 x0 x1 0 ()) (A218b1 x0 x1)))))
theorem eqStepS_self (x : List Step) : eqStepS x x = true := by
  unfold eqStepS
  refine cond_both (p := fun r => r = true) (fun c => by simp at c) (fun _ => ?_)
  exact loopN_inv (fun _ _ => True) (fun r => r = true) (fun i v next _ hn => by rw [eqStep_self]; exact hn _ trivial) (fun _ _ _ => rfl) _ _ _ trivial
theorem ok_laws_eqStepS (x0 : List Step) (x1 : List Step) (hx : x0.length ≤ 1048576) : FnT Try.prog 218 [.ro false 2 x0.length (rowOf (cStep false) x0), .ro false 2 x1.length (rowOf (cStep false) x1)] (C218 (eqStepS x0 x1)) := by
  have aux : ∀ R, eqStepS x0 x1 = R → slim (C218 R) (A218 x0 x1) [] := by
    intro R hR
    refine rg trivial ?_
    refine rg trivial ?_
    revert hR; refine cd (fun hc1 hR => ?_) fun hc1 hR => ?_
    ·
      refine rg trivial ?_
      exact congrArg C218 hR
    ·
      refine rg trivial ?_
      revert hR; refine lN (fun i v => True) (by trivial) rfl fun i1 v1 F1 hn1 hI1 hR hK1 => ?_
      refine rg trivial ?_
      refine ⟨fun hc2 => ?_, fun hc2 => ?_⟩
      · have hii1 : i1 < x0.length := by have := of_decide_eq_true hc2; omega
        replace hR := loopN_step hR hii1
        refine rg ⟨by (intros; omega), by ((try clear hR hK1); intros; (try simp only [decide_eq_true_eq, decide_eq_false_iff_not, Bool.or_eq_true, Bool.and_eq_true, or_f_iff, not_f_iff, not_t_iff, Bool.not_eq_true', inR] at *); (repeat' apply And.intro) <;> (intros; omega)), trivial, trivial⟩ ?_
        revert hR; refine cd (fun hc3 hR => ?_) fun hc3 hR => ?_
        ·
          refine rg trivial ?_
          exact congrArg C218 hR
        ·
          refine rg ⟨by ( intros; simp only [inR]; omega), trivial⟩ ?_
          exact hK1 () hii1 (by trivial) hR
      · obtain rfl : i1 = x0.length := by have := of_decide_eq_false hc2; omega
        replace hR := loopN_end hR (Nat.lt_irrefl _)
        refine rg trivial ?_
        exact congrArg C218 hR
  exact Fn.go 27 Try.func218 (by kernel_rfl) (by kernel_rfl) (by simp [C218, Frs, FrsL]) (A218 x0 x1) (by kernel_rfl) (aux _ rfl)
def k218 (x0 : List Step) (x1 : List Step) : Cl := (hres (C218 (eqStepS x0 x1)), k1 (ok_laws_eqStepS x0 x1))
def C219 (R : Bool) : LV × List (Nat × BC) := (.bool R, [])
def eqKinType (x0 : KinType) (x1 : KinType) : Bool := bif (!decide (x0.ego = x1.ego)) then false else (bif (!(eqStepS x0.steps x1.steps)) then false else true)
def A219 (x0 : KinType) (x1 : KinType) : Ann := r0 1 [2, 3, 4] [2, 3] (r0 1 [2, 3, 4, 9] [2, 3] (cn (!decide (x0.ego = x1.ego)) (r0 1 [2, 3, 4] [2, 3] (rt [] (C219 false))) (.reg 1 [] [(4, k218 x0.steps x1.steps)] [4, 15] [] [] [] [] [0] (cn (!(eqStepS x0.steps x1.steps)) (r0 1 [4] [] (rt [] (C219 false))) (r0 1 [4] [] (rt [] (C219 true)))))))
theorem eqKinType_self (x : KinType) : eqKinType x x = true := by
  simp [eqKinType, eqStepS_self]
theorem ok_laws_eqKinType (x0 : KinType) (x1 : KinType) (hx : x0.steps.length ≤ 1048576) : FnT Try.prog 219 [.agg (cKinType false x0), .agg (cKinType false x1)] (C219 (eqKinType x0 x1)) := by
  have aux : ∀ R, eqKinType x0 x1 = R → slim (C219 R) (A219 x0 x1) [] := by
    intro R hR
    refine rg trivial ?_
    refine rg trivial ?_
    revert hR; refine cd (fun hc1 hR => ?_) fun hc1 hR => ?_
    ·
      refine rg trivial ?_
      exact congrArg C219 hR
    ·
      refine rg ⟨by trivial, trivial⟩ ?_
      revert hR; refine cd (fun hc2 hR => ?_) fun hc2 hR => ?_
      ·
        refine rg trivial ?_
        exact congrArg C219 hR
      ·
        refine rg trivial ?_
        exact congrArg C219 hR
  exact Fn.go 16 Try.func219 (by kernel_rfl) (by kernel_rfl) (by simp [C219, Frs, FrsL]) (A219 x0 x1) (by kernel_rfl) (aux _ rfl)
def k219 (x0 : KinType) (x1 : KinType) : Cl := (hres (C219 (eqKinType x0 x1)), k1 (ok_laws_eqKinType x0 x1))
def C170 (R : Bool) : LV × List (Nat × BC) := (.bool R, [])
def eqRule (x0 : Rule) (x1 : Rule) : Bool := bif (!(x0.name == x1.name)) then false else (bif (!decide (x0.sex = x1.sex)) then false else (bif (!decide (x0.place = x1.place)) then false else (bif (!(eqStepS x0.from0 x1.from0)) then false else (bif (!(eqStepS x0.to x1.to)) then false else true))))
def A170 (x0 : Rule) (x1 : Rule) : Ann := r0 1 [2, 3, 4] [2, 3] (r0 1 [2, 3, 4, 9] [2, 3] (cn (!(x0.name == x1.name)) (r0 1 [2, 3, 4] [2, 3] (rt [] (C170 false))) (r0 1 [2, 3, 4, 14] [2, 3] (cn (!decide (x0.sex = x1.sex)) (r0 1 [2, 3, 4] [2, 3] (rt [] (C170 false))) (r0 1 [2, 3, 4, 19] [2, 3] (cn (!decide (x0.place = x1.place)) (r0 1 [2, 3, 4] [2, 3] (rt [] (C170 false))) (.reg 1 [] [(4, k218 x0.from0 x1.from0)] [2, 3, 4, 25] [2, 3] [] [] [] [0] (cn (!(eqStepS x0.from0 x1.from0)) (r0 1 [2, 3, 4] [2, 3] (rt [] (C170 false))) (.reg 1 [] [(4, k218 x0.to x1.to)] [4, 31] [] [] [] [] [0] (cn (!(eqStepS x0.to x1.to)) (r0 1 [4] [] (rt [] (C170 false))) (r0 1 [4] [] (rt [] (C170 true)))))))))))))
theorem eqRule_self (x : Rule) : eqRule x x = true := by
  simp [eqRule, eqStepS_self]
theorem ok_laws_eqRule (x0 : Rule) (x1 : Rule) (hr : x0.name.length ≤ 1048576 ∧ x0.from0.length ≤ 1048576 ∧ x0.to.length ≤ 1048576) : FnT Try.prog 170 [.agg (cRule false x0), .agg (cRule false x1)] (C170 (eqRule x0 x1)) := by
  have aux : ∀ R, eqRule x0 x1 = R → slim (C170 R) (A170 x0 x1) [] := by
    intro R hR
    refine rg trivial ?_
    refine rg trivial ?_
    revert hR; refine cd (fun hc1 hR => ?_) fun hc1 hR => ?_
    ·
      refine rg trivial ?_
      exact congrArg C170 hR
    ·
      refine rg trivial ?_
      revert hR; refine cd (fun hc2 hR => ?_) fun hc2 hR => ?_
      ·
        refine rg trivial ?_
        exact congrArg C170 hR
      ·
        refine rg trivial ?_
        revert hR; refine cd (fun hc3 hR => ?_) fun hc3 hR => ?_
        ·
          refine rg trivial ?_
          exact congrArg C170 hR
        ·
          refine rg ⟨by (intros; omega), trivial⟩ ?_
          revert hR; refine cd (fun hc4 hR => ?_) fun hc4 hR => ?_
          ·
            refine rg trivial ?_
            exact congrArg C170 hR
          ·
            refine rg ⟨by (intros; omega), trivial⟩ ?_
            revert hR; refine cd (fun hc5 hR => ?_) fun hc5 hR => ?_
            ·
              refine rg trivial ?_
              exact congrArg C170 hR
            ·
              refine rg trivial ?_
              exact congrArg C170 hR
  exact Fn.go 32 Try.func170 (by kernel_rfl) (by kernel_rfl) (by simp [C170, Frs, FrsL]) (A170 x0 x1) (by kernel_rfl) (aux _ rfl)
def k170 (x0 : Rule) (x1 : Rule) : Cl := (hres (C170 (eqRule x0 x1)), k1 (ok_laws_eqRule x0 x1))
def C107 (R : Bool) : LV × List (Nat × BC) := (.bool R, [])
def eqRuleS (x0 : List Rule) (x1 : List Rule) : Bool := bif (!decide (((x0.length : Nat) : Int) = ((x1.length : Nat) : Int))) then false else (loopN (fun i1 (v1 : Unit) next => bif (!(eqRule (x0.getD i1 default) (x1.getD i1 default))) then false else (next ())) (fun (v1 : Unit) => true) x0.length 0 ())
def D107b1 (x0 : List Rule) (x1 : List Rule) (i1 : Nat) (v1 : Unit) : Dl := ⟨[(5, .int .i64 ((i1 : Nat) : Int))], []⟩
def A107b1 (x0 : List Rule) (x1 : List Rule) (i1 : Nat) (v1 : Unit) : Ann := r0 1 [0, 1, 4, 5, 14] [] (cn (decide (((i1 : Nat) : Int) < ((x0.length : Nat) : Int))) (.reg 1 [] [(8, k170 (x0.getD i1 default) (x1.getD i1 default))] [0, 1, 4, 5, 26] [] [] [pf (0 ≤ (((i1 : Nat) : Int) : Int) ∧ (((i1 : Nat) : Int) : Int) < ((x0.length : Nat) : Int)), pf (0 ≤ (((i1 : Nat) : Int) : Int) ∧ (((i1 : Nat) : Int) : Int) < ((x1.length : Nat) : Int))] [] [0, 4, 8] (cn (!(eqRule (x0.getD i1 default) (x1.getD i1 default))) (r0 1 [0, 1, 4, 5] [] (rt [] (C107 false))) (r1 1 [0, 1, 4, 5] [] [pf (inR .i64 (((i1 : Nat) : Int) + 1))] [0] (.next 0 [] (D107b1 x0 x1 (i1 + 1) ()))))) (r0 1 [4] [] (rt [] (C107 true))))
def A107 (x0 : List Rule) (x1 : List Rule) : Ann := r0 1 [0, 1, 4] [] (r0 1 [0, 1, 4, 10] [] (cn (!decide (((x0.length : Nat) : Int) = ((x1.length : Nat) : Int))) (r0 1 [0, 1, 4] [] (rt [] (C107 false))) (r0 1 [0, 1, 4, 5] [] (lp (D107b1 x0 x1) [] [] [] (D107b1 x0 x1 0 ()) (A107b1 x0 x1)))))
theorem eqRuleS_self (x : List Rule) : eqRuleS x x = true := by
  unfold eqRuleS
  refine cond_both (p := fun r => r = true) (fun c => by simp at c) (fun _ => ?_)
  exact loopN_inv (fun _ _ => True) (fun r => r = true) (fun i v next _ hn => by rw [eqRule_self]; exact hn _ trivial) (fun _ _ _ => rfl) _ _ _ trivial
theorem ok_laws_eqRuleS (x0 : List Rule) (x1 : List Rule) (hx : x0.length ≤ 1048576) (hr : ∀ r ∈ x0, r.name.length ≤ 1048576 ∧ r.from0.length ≤ 1048576 ∧ r.to.length ≤ 1048576) : FnT Try.prog 107 [.ro false 5 x0.length (rowOf (cRule false) x0), .ro false 5 x1.length (rowOf (cRule false) x1)] (C107 (eqRuleS x0 x1)) := by
  have aux : ∀ R, eqRuleS x0 x1 = R → slim (C107 R) (A107 x0 x1) [] := by
    intro R hR
    refine rg trivial ?_
    refine rg trivial ?_
    revert hR; refine cd (fun hc1 hR => ?_) fun hc1 hR => ?_
    ·
      refine rg trivial ?_
      exact congrArg C107 hR
    ·
      refine rg trivial ?_
      revert hR; refine lN (fun i v => True) (by trivial) rfl fun i1 v1 F1 hn1 hI1 hR hK1 => ?_
      refine rg trivial ?_
      refine ⟨fun hc2 => ?_, fun hc2 => ?_⟩
      · have hii1 : i1 < x0.length := by have := of_decide_eq_true hc2; omega
        replace hR := loopN_step hR hii1
        refine rg ⟨by (intros; omega), by ((try clear hR hK1); intros; (try simp only [decide_eq_true_eq, decide_eq_false_iff_not, Bool.or_eq_true, Bool.and_eq_true, or_f_iff, not_f_iff, not_t_iff, Bool.not_eq_true', inR] at *); (repeat' apply And.intro) <;> (intros; omega)), by (exact hr _ (getD_mem (d := default) hii1)), trivial⟩ ?_
        revert hR; refine cd (fun hc3 hR => ?_) fun hc3 hR => ?_
        ·
          refine rg trivial ?_
          exact congrArg C107 hR
        ·
          refine rg ⟨by ( intros; simp only [inR]; omega), trivial⟩ ?_
          exact hK1 () hii1 (by trivial) hR
      · obtain rfl : i1 = x0.length := by have := of_decide_eq_false hc2; omega
        replace hR := loopN_end hR (Nat.lt_irrefl _)
        refine rg trivial ?_
        exact congrArg C107 hR
  exact Fn.go 27 Try.func107 (by kernel_rfl) (by kernel_rfl) (by simp [C107, Frs, FrsL]) (A107 x0 x1) (by kernel_rfl) (aux _ rfl)
def k107 (x0 : List Rule) (x1 : List Rule) : Cl := (hres (C107 (eqRuleS x0 x1)), k2 (ok_laws_eqRuleS x0 x1))
def C171 (R : Bool) : LV × List (Nat × BC) := (.bool R, [])
def eqEntry (x0 : Entry) (x1 : Entry) : Bool := bif (!(eqKinType x0.type x1.type)) then false else (bif (!(x0.term == x1.term)) then false else true)
def A171 (x0 : Entry) (x1 : Entry) : Ann := r0 1 [2, 3, 4] [2, 3] (.reg 1 [] [(4, k219 x0.type x1.type)] [2, 3, 4, 10] [2, 3] [] [] [] [0] (cn (!(eqKinType x0.type x1.type)) (r0 1 [2, 3, 4] [2, 3] (rt [] (C171 false))) (r0 1 [4, 15] [] (cn (!(x0.term == x1.term)) (r0 1 [4] [] (rt [] (C171 false))) (r0 1 [4] [] (rt [] (C171 true)))))))
theorem eqEntry_self (x : Entry) : eqEntry x x = true := by
  simp [eqEntry, eqKinType_self]
theorem ok_laws_eqEntry (x0 : Entry) (x1 : Entry) (he : x0.term.length ≤ 1048576 ∧ x0.type.steps.length ≤ 1048576) : FnT Try.prog 171 [.agg (cEntry false x0), .agg (cEntry false x1)] (C171 (eqEntry x0 x1)) := by
  have aux : ∀ R, eqEntry x0 x1 = R → slim (C171 R) (A171 x0 x1) [] := by
    intro R hR
    refine rg trivial ?_
    refine rg ⟨by (intros; omega), trivial⟩ ?_
    revert hR; refine cd (fun hc1 hR => ?_) fun hc1 hR => ?_
    ·
      refine rg trivial ?_
      exact congrArg C171 hR
    ·
      refine rg trivial ?_
      revert hR; refine cd (fun hc2 hR => ?_) fun hc2 hR => ?_
      ·
        refine rg trivial ?_
        exact congrArg C171 hR
      ·
        refine rg trivial ?_
        exact congrArg C171 hR
  exact Fn.go 16 Try.func171 (by kernel_rfl) (by kernel_rfl) (by simp [C171, Frs, FrsL]) (A171 x0 x1) (by kernel_rfl) (aux _ rfl)
def k171 (x0 : Entry) (x1 : Entry) : Cl := (hres (C171 (eqEntry x0 x1)), k1 (ok_laws_eqEntry x0 x1))
def C108 (R : Bool) : LV × List (Nat × BC) := (.bool R, [])
def eqEntryS (x0 : List Entry) (x1 : List Entry) : Bool := bif (!decide (((x0.length : Nat) : Int) = ((x1.length : Nat) : Int))) then false else (loopN (fun i1 (v1 : Unit) next => bif (!(eqEntry (Entry.mk ((x0.getD i1 default).type) ((x0.getD i1 default).term)) (Entry.mk ((x1.getD i1 default).type) ((x1.getD i1 default).term)))) then false else (next ())) (fun (v1 : Unit) => true) x0.length 0 ())
def D108b1 (x0 : List Entry) (x1 : List Entry) (i1 : Nat) (v1 : Unit) : Dl := ⟨[(5, .int .i64 ((i1 : Nat) : Int))], []⟩
def A108b1 (x0 : List Entry) (x1 : List Entry) (i1 : Nat) (v1 : Unit) : Ann := r0 1 [0, 1, 4, 5, 14] [] (cn (decide (((i1 : Nat) : Int) < ((x0.length : Nat) : Int))) (.reg 1 [] [(8, k171 (Entry.mk ((x0.getD i1 default).type) ((x0.getD i1 default).term)) (Entry.mk ((x1.getD i1 default).type) ((x1.getD i1 default).term)))] [0, 1, 4, 5, 26] [] [] [pf (0 ≤ (((i1 : Nat) : Int) : Int) ∧ (((i1 : Nat) : Int) : Int) < ((x0.length : Nat) : Int)), pf (0 ≤ (((i1 : Nat) : Int) : Int) ∧ (((i1 : Nat) : Int) : Int) < ((x1.length : Nat) : Int))] [] [0, 4, 8] (cn (!(eqEntry (Entry.mk ((x0.getD i1 default).type) ((x0.getD i1 default).term)) (Entry.mk ((x1.getD i1 default).type) ((x1.getD i1 default).term)))) (r0 1 [0, 1, 4, 5] [] (rt [] (C108 false))) (r1 1 [0, 1, 4, 5] [] [pf (inR .i64 (((i1 : Nat) : Int) + 1))] [0] (.next 0 [] (D108b1 x0 x1 (i1 + 1) ()))))) (r0 1 [4] [] (rt [] (C108 true))))
def A108 (x0 : List Entry) (x1 : List Entry) : Ann := r0 1 [0, 1, 4] [] (r0 1 [0, 1, 4, 10] [] (cn (!decide (((x0.length : Nat) : Int) = ((x1.length : Nat) : Int))) (r0 1 [0, 1, 4] [] (rt [] (C108 false))) (r0 1 [0, 1, 4, 5] [] (lp (D108b1 x0 x1) [] [] [] (D108b1 x0 x1 0 ()) (A108b1 x0 x1)))))
theorem eqEntryS_self (x : List Entry) : eqEntryS x x = true := by
  unfold eqEntryS
  refine cond_both (p := fun r => r = true) (fun c => by simp at c) (fun _ => ?_)
  exact loopN_inv (fun _ _ => True) (fun r => r = true) (fun i v next _ hn => by rw [eqEntry_self]; exact hn _ trivial) (fun _ _ _ => rfl) _ _ _ trivial
theorem ok_laws_eqEntryS (x0 : List Entry) (x1 : List Entry) (hx : x0.length ≤ 1048576) (hee : ∀ e ∈ x0, e.term.length ≤ 1048576 ∧ e.type.steps.length ≤ 1048576) : FnT Try.prog 108 [.ro false 3 x0.length (rowOf (cEntry false) x0), .ro false 3 x1.length (rowOf (cEntry false) x1)] (C108 (eqEntryS x0 x1)) := by
  have aux : ∀ R, eqEntryS x0 x1 = R → slim (C108 R) (A108 x0 x1) [] := by
    intro R hR
    refine rg trivial ?_
    refine rg trivial ?_
    revert hR; refine cd (fun hc1 hR => ?_) fun hc1 hR => ?_
    ·
      refine rg trivial ?_
      exact congrArg C108 hR
    ·
      refine rg trivial ?_
      revert hR; refine lN (fun i v => True) (by trivial) rfl fun i1 v1 F1 hn1 hI1 hR hK1 => ?_
      refine rg trivial ?_
      refine ⟨fun hc2 => ?_, fun hc2 => ?_⟩
      · have hii1 : i1 < x0.length := by have := of_decide_eq_true hc2; omega
        replace hR := loopN_step hR hii1
        refine rg ⟨by (intros; omega), by ((try clear hR hK1); intros; (try simp only [decide_eq_true_eq, decide_eq_false_iff_not, Bool.or_eq_true, Bool.and_eq_true, or_f_iff, not_f_iff, not_t_iff, Bool.not_eq_true', inR] at *); (repeat' apply And.intro) <;> (intros; omega)), by (exact hee _ (getD_mem (d := default) hii1)), trivial⟩ ?_
        revert hR; refine cd (fun hc3 hR => ?_) fun hc3 hR => ?_
        ·
          refine rg trivial ?_
          exact congrArg C108 hR
        ·
          refine rg ⟨by ( intros; simp only [inR]; omega), trivial⟩ ?_
          exact hK1 () hii1 (by trivial) hR
      · obtain rfl : i1 = x0.length := by have := of_decide_eq_false hc2; omega
        replace hR := loopN_end hR (Nat.lt_irrefl _)
        refine rg trivial ?_
        exact congrArg C108 hR
  exact Fn.go 27 Try.func108 (by kernel_rfl) (by kernel_rfl) (by simp [C108, Frs, FrsL]) (A108 x0 x1) (by kernel_rfl) (aux _ rfl)
def k108 (x0 : List Entry) (x1 : List Entry) : Cl := (hres (C108 (eqEntryS x0 x1)), k2 (ok_laws_eqEntryS x0 x1))
def C46 (R : Bool) : LV × List (Nat × BC) := (.bool R, [])
def eqTerminology (x0 : Terminology) (x1 : Terminology) : Bool := bif (!(eqRuleS x0.rules x1.rules)) then false else (bif (!(eqEntryS x0.entries x1.entries)) then false else true)
def A46 (x0 : Terminology) (x1 : Terminology) : Ann := r0 1 [2, 3, 4] [2, 3] (.reg 1 [] [(4, k107 x0.rules x1.rules)] [2, 3, 4, 10] [2, 3] [] [] [] [0] (cn (!(eqRuleS x0.rules x1.rules)) (r0 1 [2, 3, 4] [2, 3] (rt [] (C46 false))) (.reg 1 [] [(4, k108 x0.entries x1.entries)] [4, 16] [] [] [] [] [0] (cn (!(eqEntryS x0.entries x1.entries)) (r0 1 [4] [] (rt [] (C46 false))) (r0 1 [4] [] (rt [] (C46 true)))))))
theorem eqTerminology_self (x : Terminology) : eqTerminology x x = true := by
  simp [eqTerminology, eqRuleS_self, eqEntryS_self]
theorem ok_laws_eqTerminology (x0 : Terminology) (x1 : Terminology) (hx : x0.rules.length ≤ 1048576) (hr : ∀ r ∈ x0.rules, r.name.length ≤ 1048576 ∧ r.from0.length ≤ 1048576 ∧ r.to.length ≤ 1048576) (he : x0.entries.length ≤ 1048576) (hee : ∀ e ∈ x0.entries, e.term.length ≤ 1048576 ∧ e.type.steps.length ≤ 1048576) : FnT Try.prog 46 [.agg (cTerminology false x0), .agg (cTerminology false x1)] (C46 (eqTerminology x0 x1)) := by
  have aux : ∀ R, eqTerminology x0 x1 = R → slim (C46 R) (A46 x0 x1) [] := by
    intro R hR
    refine rg trivial ?_
    refine rg ⟨⟨by trivial, by trivial⟩, trivial⟩ ?_
    revert hR; refine cd (fun hc1 hR => ?_) fun hc1 hR => ?_
    ·
      refine rg trivial ?_
      exact congrArg C46 hR
    ·
      refine rg ⟨⟨by trivial, by trivial⟩, trivial⟩ ?_
      revert hR; refine cd (fun hc2 hR => ?_) fun hc2 hR => ?_
      ·
        refine rg trivial ?_
        exact congrArg C46 hR
      ·
        refine rg trivial ?_
        exact congrArg C46 hR
  exact Fn.go 17 Try.func46 (by kernel_rfl) (by kernel_rfl) (by simp [C46, Frs, FrsL]) (A46 x0 x1) (by kernel_rfl) (aux _ rfl)
def k46 (x0 : Terminology) (x1 : Terminology) : Cl := (hres (C46 (eqTerminology x0 x1)), k4 (ok_laws_eqTerminology x0 x1))
def C45 (R : Bool) : LV × List (Nat × BC) := (.bool R, [])
def eqLaw (x0 : Law) (x1 : Law) : Bool := bif (!decide (x0.degree = x1.degree)) then false else (bif (!decide (x0.canon = x1.canon)) then false else (bif (!decide (x0.affinity = x1.affinity)) then false else (bif (!decide (x0.age = x1.age)) then false else (bif (!decide (x0.wives = x1.wives)) then false else (bif (!decide (x0.husbands = x1.husbands)) then false else (bif (!(x0.patriline == x1.patriline)) then false else (bif (!(x0.matriline == x1.matriline)) then false else true)))))))
def A45 (x0 : Law) (x1 : Law) : Ann := r0 1 [2, 3, 4] [2, 3] (r0 1 [2, 3, 4, 9] [2, 3] (cn (!decide (x0.degree = x1.degree)) (r0 1 [2, 3, 4] [2, 3] (rt [] (C45 false))) (r0 1 [2, 3, 4, 14] [2, 3] (cn (!decide (x0.canon = x1.canon)) (r0 1 [2, 3, 4] [2, 3] (rt [] (C45 false))) (r0 1 [2, 3, 4, 19] [2, 3] (cn (!decide (x0.affinity = x1.affinity)) (r0 1 [2, 3, 4] [2, 3] (rt [] (C45 false))) (r0 1 [2, 3, 4, 24] [2, 3] (cn (!decide (x0.age = x1.age)) (r0 1 [2, 3, 4] [2, 3] (rt [] (C45 false))) (r0 1 [2, 3, 4, 29] [2, 3] (cn (!decide (x0.wives = x1.wives)) (r0 1 [2, 3, 4] [2, 3] (rt [] (C45 false))) (r0 1 [2, 3, 4, 34] [2, 3] (cn (!decide (x0.husbands = x1.husbands)) (r0 1 [2, 3, 4] [2, 3] (rt [] (C45 false))) (r0 1 [2, 3, 4, 39] [2, 3] (cn (!(x0.patriline == x1.patriline)) (r0 1 [2, 3, 4] [2, 3] (rt [] (C45 false))) (r0 1 [4, 44] [] (cn (!(x0.matriline == x1.matriline)) (r0 1 [4] [] (rt [] (C45 false))) (r0 1 [4] [] (rt [] (C45 true)))))))))))))))))))
theorem ok_laws_eqLaw (x0 : Law) (x1 : Law) : FnT Try.prog 45 [.agg (cLaw false x0), .agg (cLaw false x1)] (C45 (eqLaw x0 x1)) := by
  have aux : ∀ R, eqLaw x0 x1 = R → slim (C45 R) (A45 x0 x1) [] := by
    intro R hR
    refine rg trivial ?_
    refine rg trivial ?_
    revert hR; refine cd (fun hc1 hR => ?_) fun hc1 hR => ?_
    ·
      refine rg trivial ?_
      exact congrArg C45 hR
    ·
      refine rg trivial ?_
      revert hR; refine cd (fun hc2 hR => ?_) fun hc2 hR => ?_
      ·
        refine rg trivial ?_
        exact congrArg C45 hR
      ·
        refine rg trivial ?_
        revert hR; refine cd (fun hc3 hR => ?_) fun hc3 hR => ?_
        ·
          refine rg trivial ?_
          exact congrArg C45 hR
        ·
          refine rg trivial ?_
          revert hR; refine cd (fun hc4 hR => ?_) fun hc4 hR => ?_
          ·
            refine rg trivial ?_
            exact congrArg C45 hR
          ·
            refine rg trivial ?_
            revert hR; refine cd (fun hc5 hR => ?_) fun hc5 hR => ?_
            ·
              refine rg trivial ?_
              exact congrArg C45 hR
            ·
              refine rg trivial ?_
              revert hR; refine cd (fun hc6 hR => ?_) fun hc6 hR => ?_
              ·
                refine rg trivial ?_
                exact congrArg C45 hR
              ·
                refine rg trivial ?_
                revert hR; refine cd (fun hc7 hR => ?_) fun hc7 hR => ?_
                ·
                  refine rg trivial ?_
                  exact congrArg C45 hR
                ·
                  refine rg trivial ?_
                  revert hR; refine cd (fun hc8 hR => ?_) fun hc8 hR => ?_
                  ·
                    refine rg trivial ?_
                    exact congrArg C45 hR
                  ·
                    refine rg trivial ?_
                    exact congrArg C45 hR
  exact Fn.go 45 Try.func45 (by kernel_rfl) (by kernel_rfl) (by simp [C45, Frs, FrsL]) (A45 x0 x1) (by kernel_rfl) (aux _ rfl)
def k45 (x0 : Law) (x1 : Law) : Cl := (hres (C45 (eqLaw x0 x1)), k0 (ok_laws_eqLaw x0 x1))
def C47 (R : Bool) : LV × List (Nat × BC) := (.bool R, [])
def eqCustom (x0 : Custom) (x1 : Custom) : Bool := bif (!decide (x0.prefer = x1.prefer)) then false else (bif (!(x0.youngest == x1.youngest)) then false else (bif (!(x0.represent == x1.represent)) then false else true))
def A47 (x0 : Custom) (x1 : Custom) : Ann := r0 1 [2, 3, 4] [2, 3] (r0 1 [2, 3, 4, 9] [2, 3] (cn (!decide (x0.prefer = x1.prefer)) (r0 1 [2, 3, 4] [2, 3] (rt [] (C47 false))) (r0 1 [2, 3, 4, 14] [2, 3] (cn (!(x0.youngest == x1.youngest)) (r0 1 [2, 3, 4] [2, 3] (rt [] (C47 false))) (r0 1 [4, 19] [] (cn (!(x0.represent == x1.represent)) (r0 1 [4] [] (rt [] (C47 false))) (r0 1 [4] [] (rt [] (C47 true)))))))))
theorem ok_laws_eqCustom (x0 : Custom) (x1 : Custom) : FnT Try.prog 47 [.agg (cCustom false x0), .agg (cCustom false x1)] (C47 (eqCustom x0 x1)) := by
  have aux : ∀ R, eqCustom x0 x1 = R → slim (C47 R) (A47 x0 x1) [] := by
    intro R hR
    refine rg trivial ?_
    refine rg trivial ?_
    revert hR; refine cd (fun hc1 hR => ?_) fun hc1 hR => ?_
    ·
      refine rg trivial ?_
      exact congrArg C47 hR
    ·
      refine rg trivial ?_
      revert hR; refine cd (fun hc2 hR => ?_) fun hc2 hR => ?_
      ·
        refine rg trivial ?_
        exact congrArg C47 hR
      ·
        refine rg trivial ?_
        revert hR; refine cd (fun hc3 hR => ?_) fun hc3 hR => ?_
        ·
          refine rg trivial ?_
          exact congrArg C47 hR
        ·
          refine rg trivial ?_
          exact congrArg C47 hR
  exact Fn.go 20 Try.func47 (by kernel_rfl) (by kernel_rfl) (by simp [C47, Frs, FrsL]) (A47 x0 x1) (by kernel_rfl) (aux _ rfl)
def k47 (x0 : Custom) (x1 : Custom) : Cl := (hres (C47 (eqCustom x0 x1)), k0 (ok_laws_eqCustom x0 x1))
def C11 (R : Bool) : LV × List (Nat × BC) := (.bool R, [])
def eqRegister (x0 : Register) (x1 : Register) : Bool := bif (!(eqFamily x0.family x1.family)) then false else (bif (!(eqLaw x0.law x1.law)) then false else (bif (!(eqTerminology x0.terms x1.terms)) then false else (bif (!(eqCustom x0.custom x1.custom)) then false else true)))
def A11 (x0 : Register) (x1 : Register) : Ann := r0 1 [2, 3, 4] [2, 3] (.reg 1 [] [(4, k44 x0.family x1.family)] [2, 3, 4, 10] [2, 3] [] [] [] [0] (cn (!(eqFamily x0.family x1.family)) (r0 1 [2, 3, 4] [2, 3] (rt [] (C11 false))) (.reg 1 [] [(4, k45 x0.law x1.law)] [2, 3, 4, 16] [2, 3] [] [] [] [0] (cn (!(eqLaw x0.law x1.law)) (r0 1 [2, 3, 4] [2, 3] (rt [] (C11 false))) (.reg 1 [] [(4, k46 x0.terms x1.terms)] [2, 3, 4, 22] [2, 3] [] [] [] [0] (cn (!(eqTerminology x0.terms x1.terms)) (r0 1 [2, 3, 4] [2, 3] (rt [] (C11 false))) (.reg 1 [] [(4, k47 x0.custom x1.custom)] [4, 28] [] [] [] [] [0] (cn (!(eqCustom x0.custom x1.custom)) (r0 1 [4] [] (rt [] (C11 false))) (r0 1 [4] [] (rt [] (C11 true)))))))))))
theorem eqRegister_self (x : Register) : eqRegister x x = true := by
  have h1 : eqLaw x.law x.law = true := by simp [eqLaw]
  have h2 : eqCustom x.custom x.custom = true := by simp [eqCustom]
  simp [eqRegister, eqFamily_self, h1, h2, eqTerminology_self]
theorem ok_laws_eqRegister (x0 : Register) (x1 : Register) (hp : x0.family.people.length ≤ 1048576 ∧ x0.family.unions.length ≤ 1048576) (hn : ∀ p ∈ x0.family.people, p.name.length ≤ 1048576) (hx : x0.terms.rules.length ≤ 1048576) (hr : ∀ r ∈ x0.terms.rules, r.name.length ≤ 1048576 ∧ r.from0.length ≤ 1048576 ∧ r.to.length ≤ 1048576) (he : x0.terms.entries.length ≤ 1048576) (hee : ∀ e ∈ x0.terms.entries, e.term.length ≤ 1048576 ∧ e.type.steps.length ≤ 1048576) : FnT Try.prog 11 [.agg (cRegister false x0), .agg (cRegister false x1)] (C11 (eqRegister x0 x1)) := by
  have aux : ∀ R, eqRegister x0 x1 = R → slim (C11 R) (A11 x0 x1) [] := by
    intro R hR
    refine rg trivial ?_
    refine rg ⟨by trivial, trivial⟩ ?_
    revert hR; refine cd (fun hc1 hR => ?_) fun hc1 hR => ?_
    ·
      refine rg trivial ?_
      exact congrArg C11 hR
    ·
      refine rg ⟨trivial, trivial⟩ ?_
      revert hR; refine cd (fun hc2 hR => ?_) fun hc2 hR => ?_
      ·
        refine rg trivial ?_
        exact congrArg C11 hR
      ·
        refine rg ⟨⟨by trivial, by trivial, by trivial, by trivial⟩, trivial⟩ ?_
        revert hR; refine cd (fun hc3 hR => ?_) fun hc3 hR => ?_
        ·
          refine rg trivial ?_
          exact congrArg C11 hR
        ·
          refine rg ⟨trivial, trivial⟩ ?_
          revert hR; refine cd (fun hc4 hR => ?_) fun hc4 hR => ?_
          ·
            refine rg trivial ?_
            exact congrArg C11 hR
          ·
            refine rg trivial ?_
            exact congrArg C11 hR
  exact Fn.go 29 Try.func11 (by kernel_rfl) (by kernel_rfl) (by simp [C11, Frs, FrsL]) (A11 x0 x1) (by kernel_rfl) (aux _ rfl)
def k11 (x0 : Register) (x1 : Register) : Cl := (hres (C11 (eqRegister x0 x1)), k6 (ok_laws_eqRegister x0 x1))
end Go.Proofs.Ytanfabaedopeiaa
