import Derived.Test.YtanfabaedopeiaaVR8
set_option maxHeartbeats 4000000
set_option linter.unusedSimpArgs false
set_option linter.unusedVariables false
namespace Go.Proofs.Ytanfabaedopeiaa
open Go Go.Lite Go.Proofs
def C207 (R : Int) : LV × List (Nat × BC) := (.int .i64 R, [])
def szStepS (x0 : List Step) (x1 : Int) : Int := bif (decide ((x1 - ((x0.length : Nat) : Int)) < 0)) then (-1) else (x1 - ((x0.length : Nat) : Int))
def A207 (x0 : List Step) (x1 : Int) : Ann := r1 2 [1, 4] [] [pf (inR .i64 (x1 - ((x0.length : Nat) : Int)))] [0] (r0 1 [1, 4, 10] [] (cn (decide ((x1 - ((x0.length : Nat) : Int)) < 0)) (r0 1 [1, 4] [] (rt [] (C207 (-1)))) (r0 1 [4] [] (rt [] (C207 (x1 - ((x0.length : Nat) : Int)))))))
theorem szStepS_rng (x : List Step) (w : Int) : szStepS x w ≤ max w (-1) ∧ -1 ≤ szStepS x w := by
  unfold szStepS
  refine cond_both (p := fun (r : Int) => r ≤ max w (-1) ∧ -1 ≤ r) (fun _ => by omega) (fun c0 => ?_)
  have c0 := of_decide_eq_false c0
  omega
theorem ok_laws_szStepS (x0 : List Step) (x1 : Int) (hx : x0.length ≤ 1048576) (hw : -1 ≤ x1 ∧ x1 ≤ 1048576) : FnT Try.prog 207 [.ro false 2 x0.length (rowOf (cStep false) x0), .int .i64 x1] (C207 (szStepS x0 x1)) := by
  have aux : ∀ R, szStepS x0 x1 = R → slim (C207 R) (A207 x0 x1) [] := by
    intro R hR
    refine rg ⟨by ((try simp only [inR]); omega), trivial⟩ ?_
    refine rg trivial ?_
    revert hR; refine cd (fun hc1 hR => ?_) fun hc1 hR => ?_
    ·
      refine rg trivial ?_
      exact congrArg C207 hR
    ·
      refine rg trivial ?_
      exact congrArg C207 hR
  exact Fn.go 12 Try.func207 (by kernel_rfl) (by kernel_rfl) (by simp [C207, Frs, FrsL]) (A207 x0 x1) (by kernel_rfl) (aux _ rfl)
def k207 (x0 : List Step) (x1 : Int) : Cl := (hres (C207 (szStepS x0 x1)), k2 (ok_laws_szStepS x0 x1))
def C208 (R : Int) : LV × List (Nat × BC) := (.int .i64 R, [])
def szKinType (x0 : KinType) (x1 : Int) : Int := bif (decide ((szStepS x0.steps x1) < 0)) then (-1) else (szStepS x0.steps x1)
def A208 (x0 : KinType) (x1 : Int) : Ann := .reg 2 [] [(1003, k207 x0.steps x1)] [1, 4] [] [] [] [] [0] (r0 1 [1, 4, 10] [] (cn (decide ((szStepS x0.steps x1) < 0)) (r0 1 [1, 4] [] (rt [] (C208 (-1)))) (r0 1 [4] [] (rt [] (C208 (szStepS x0.steps x1))))))
theorem szKinType_rng (x : KinType) (w : Int) : szKinType x w ≤ max w (-1) ∧ -1 ≤ szKinType x w := by
  unfold szKinType
  have b0 := szStepS_rng x.steps w
  refine cond_both (p := fun (r : Int) => r ≤ max w (-1) ∧ -1 ≤ r) (fun _ => by omega) (fun c0 => ?_)
  have c0 := of_decide_eq_false c0
  omega
theorem ok_laws_szKinType (x0 : KinType) (x1 : Int) (hx : x0.steps.length ≤ 1048576) (hw : -1 ≤ x1 ∧ x1 ≤ 1048576) : FnT Try.prog 208 [.agg (cKinType false x0), .int .i64 x1] (C208 (szKinType x0 x1)) := by
  have aux : ∀ R, szKinType x0 x1 = R → slim (C208 R) (A208 x0 x1) [] := by
    intro R hR
    refine rg ⟨⟨by with_reducible assumption, by with_reducible assumption⟩, trivial⟩ ?_
    have hp1 := szStepS_rng x0.steps x1
    refine rg trivial ?_
    revert hR; refine cd (fun hc1 hR => ?_) fun hc1 hR => ?_
    ·
      refine rg trivial ?_
      exact congrArg C208 hR
    ·
      refine rg trivial ?_
      exact congrArg C208 hR
  exact Fn.go 12 Try.func208 (by kernel_rfl) (by kernel_rfl) (by simp [C208, Frs, FrsL]) (A208 x0 x1) (by kernel_rfl) (aux _ rfl)
def k208 (x0 : KinType) (x1 : Int) : Cl := (hres (C208 (szKinType x0 x1)), k2 (ok_laws_szKinType x0 x1))
def C152 (R : Int) : LV × List (Nat × BC) := (.int .i64 R, [])
def szRule (x0 : Rule) (x1 : Int) : Int := bif (decide ((x1 - ((x0.name.length : Nat) : Int)) < 0)) then (-1) else (bif (decide ((szStepS x0.from0 (x1 - ((x0.name.length : Nat) : Int))) < 0)) then (-1) else (bif (decide ((szStepS x0.to (szStepS x0.from0 (x1 - ((x0.name.length : Nat) : Int)))) < 0)) then (-1) else (szStepS x0.to (szStepS x0.from0 (x1 - ((x0.name.length : Nat) : Int))))))
def A152 (x0 : Rule) (x1 : Int) : Ann := r1 2 [1, 2, 4] [2] [pf (inR .i64 (x1 - ((x0.name.length : Nat) : Int)))] [0] (r0 1 [1, 2, 4, 11] [2] (cn (decide ((x1 - ((x0.name.length : Nat) : Int)) < 0)) (r0 1 [1, 2, 4] [2] (rt [] (C152 (-1)))) (.reg 1 [] [(3, k207 x0.from0 (x1 - ((x0.name.length : Nat) : Int)))] [1, 2, 4] [2] [] [] [] [0] (r0 1 [1, 2, 4, 17] [2] (cn (decide ((szStepS x0.from0 (x1 - ((x0.name.length : Nat) : Int))) < 0)) (r0 1 [1, 2, 4] [2] (rt [] (C152 (-1)))) (.reg 1 [] [(3, k207 x0.to (szStepS x0.from0 (x1 - ((x0.name.length : Nat) : Int))))] [1, 4] [] [] [] [] [0] (r0 1 [1, 4, 23] [] (cn (decide ((szStepS x0.to (szStepS x0.from0 (x1 - ((x0.name.length : Nat) : Int)))) < 0)) (r0 1 [1, 4] [] (rt [] (C152 (-1)))) (r0 1 [4] [] (rt [] (C152 (szStepS x0.to (szStepS x0.from0 (x1 - ((x0.name.length : Nat) : Int)))))))))))))))
theorem szRule_rng (x : Rule) (w : Int) : szRule x w ≤ max w (-1) ∧ -1 ≤ szRule x w := by
  unfold szRule
  refine cond_both (p := fun (r : Int) => r ≤ max w (-1) ∧ -1 ≤ r) (fun _ => by omega) (fun c0 => ?_)
  have c0 := of_decide_eq_false c0
  have b1 := szStepS_rng x.from0 (w - ((x.name.length : Nat) : Int))
  refine cond_both (p := fun (r : Int) => r ≤ max w (-1) ∧ -1 ≤ r) (fun _ => by omega) (fun c1 => ?_)
  have c1 := of_decide_eq_false c1
  have b2 := szStepS_rng x.to (szStepS x.from0 (w - ((x.name.length : Nat) : Int)))
  refine cond_both (p := fun (r : Int) => r ≤ max w (-1) ∧ -1 ≤ r) (fun _ => by omega) (fun c2 => ?_)
  have c2 := of_decide_eq_false c2
  omega
theorem ok_laws_szRule (x0 : Rule) (x1 : Int) (hr : x0.name.length ≤ 1048576 ∧ x0.from0.length ≤ 1048576 ∧ x0.to.length ≤ 1048576) (hw : -1 ≤ x1 ∧ x1 ≤ 1048576) : FnT Try.prog 152 [.agg (cRule false x0), .int .i64 x1] (C152 (szRule x0 x1)) := by
  have aux : ∀ R, szRule x0 x1 = R → slim (C152 R) (A152 x0 x1) [] := by
    intro R hR
    refine rg ⟨by ((try simp only [inR]); omega), trivial⟩ ?_
    refine rg trivial ?_
    revert hR; refine cd (fun hc1 hR => ?_) fun hc1 hR => ?_
    ·
      refine rg trivial ?_
      exact congrArg C152 hR
    ·
      refine rg ⟨⟨by (intros; omega), by (have h9 := szStepS_rng x0.from0 (x1 - ((x0.name.length : Nat) : Int)); simp only [decide_eq_false_iff_not] at *; omega)⟩, trivial⟩ ?_
      have hp1 := szStepS_rng x0.from0 (x1 - ((x0.name.length : Nat) : Int))
      refine rg trivial ?_
      revert hR; refine cd (fun hc2 hR => ?_) fun hc2 hR => ?_
      ·
        refine rg trivial ?_
        exact congrArg C152 hR
      ·
        refine rg ⟨⟨by (intros; omega), by (intros; omega)⟩, trivial⟩ ?_
        have hp2 := szStepS_rng x0.to (szStepS x0.from0 (x1 - ((x0.name.length : Nat) : Int)))
        refine rg trivial ?_
        revert hR; refine cd (fun hc3 hR => ?_) fun hc3 hR => ?_
        ·
          refine rg trivial ?_
          exact congrArg C152 hR
        ·
          refine rg trivial ?_
          exact congrArg C152 hR
  exact Fn.go 25 Try.func152 (by kernel_rfl) (by kernel_rfl) (by simp [C152, Frs, FrsL]) (A152 x0 x1) (by kernel_rfl) (aux _ rfl)
def k152 (x0 : Rule) (x1 : Int) : Cl := (hres (C152 (szRule x0 x1)), k2 (ok_laws_szRule x0 x1))
def C82 (R : Int) : LV × List (Nat × BC) := (.int .i64 R, [])
def szRuleS (x0 : List Rule) (x1 : Int) : Int := bif (decide ((x1 - ((x0.length : Nat) : Int)) < 0)) then (-1) else (loopN (fun i1 (v1 : Int) next => bif (decide ((szRule (x0.getD i1 default) v1) < 0)) then (-1) else (next (szRule (x0.getD i1 default) v1))) (fun (v1 : Int) => v1) x0.length 0 (x1 - ((x0.length : Nat) : Int)))
def D82b1 (x0 : List Rule) (x1 : Int) (i1 : Nat) (v1 : Int) : Dl := ⟨[(5, .int .i64 ((i1 : Nat) : Int)), (1, .int .i64 v1)], []⟩
def A82b1 (x0 : List Rule) (x1 : Int) (i1 : Nat) (v1 : Int) : Ann := r0 1 [0, 1, 4, 5, 15] [] (cn (decide (((i1 : Nat) : Int) < ((x0.length : Nat) : Int))) (.reg 2 [] [(5, k152 (x0.getD i1 default) v1)] [0, 1, 4, 5, 25] [] [] [pf (0 ≤ (((i1 : Nat) : Int) : Int) ∧ (((i1 : Nat) : Int) : Int) < ((x0.length : Nat) : Int))] [] [0, 4] (cn (decide ((szRule (x0.getD i1 default) v1) < 0)) (r0 1 [0, 1, 4, 5] [] (rt [] (C82 (-1)))) (r1 1 [0, 1, 4, 5] [] [pf (inR .i64 (((i1 : Nat) : Int) + 1))] [0] (.next 0 [] (D82b1 x0 x1 (i1 + 1) (szRule (x0.getD i1 default) v1)))))) (r0 1 [4] [] (rt [] (C82 v1))))
def A82 (x0 : List Rule) (x1 : Int) : Ann := r1 2 [0, 1, 4] [] [pf (inR .i64 (x1 - ((x0.length : Nat) : Int)))] [0] (r0 1 [0, 1, 4, 11] [] (cn (decide ((x1 - ((x0.length : Nat) : Int)) < 0)) (r0 1 [0, 1, 4] [] (rt [] (C82 (-1)))) (r0 1 [0, 1, 4, 5] [] (lp (D82b1 x0 x1) [] [] [] (D82b1 x0 x1 0 (x1 - ((x0.length : Nat) : Int))) (A82b1 x0 x1)))))
theorem szRuleS_rng (x : List Rule) (w : Int) : szRuleS x w ≤ max w (-1) ∧ -1 ≤ szRuleS x w := by
  unfold szRuleS
  refine cond_both (p := fun (r : Int) => r ≤ max w (-1) ∧ -1 ≤ r) (fun _ => by omega) (fun c => ?_)
  have c := of_decide_eq_false c
  refine loopN_to (fun _ (v : Int) => v ≤ max w (-1) ∧ -1 ≤ v) (fun r => r ≤ max w (-1) ∧ -1 ≤ r) (by omega) (fun i v next hi hv hn => ?_) (fun v hv => hv)
  have h := szRule_rng (x.getD i default) v
  exact cond_both (p := fun (r : Int) => r ≤ max w (-1) ∧ -1 ≤ r) (fun _ => by omega) (fun _ => hn _ (by omega))
theorem ok_laws_szRuleS (x0 : List Rule) (x1 : Int) (hx : x0.length ≤ 1048576) (hr : ∀ r ∈ x0, r.name.length ≤ 1048576 ∧ r.from0.length ≤ 1048576 ∧ r.to.length ≤ 1048576) (hw : -1 ≤ x1 ∧ x1 ≤ 1048576) : FnT Try.prog 82 [.ro false 5 x0.length (rowOf (cRule false) x0), .int .i64 x1] (C82 (szRuleS x0 x1)) := by
  have aux : ∀ R, szRuleS x0 x1 = R → slim (C82 R) (A82 x0 x1) [] := by
    intro R hR
    refine rg ⟨by ((try simp only [inR]); omega), trivial⟩ ?_
    refine rg trivial ?_
    revert hR; refine cd (fun hc1 hR => ?_) fun hc1 hR => ?_
    ·
      refine rg trivial ?_
      exact congrArg C82 hR
    ·
      refine rg trivial ?_
      revert hR; refine lN (fun i v => -1 ≤ v ∧ v ≤ 1048576) (by (simp only [decide_eq_false_iff_not] at *; omega)) rfl fun i1 v1 F1 hn1 hI1 hR hK1 => ?_
      refine rg trivial ?_
      refine ⟨fun hc2 => ?_, fun hc2 => ?_⟩
      · have hii1 : i1 < x0.length := by have := of_decide_eq_true hc2; omega
        replace hR := loopN_step hR hii1
        refine rg ⟨by (intros; omega), ⟨by (exact hr _ (getD_mem (d := default) hii1)), by with_reducible assumption⟩, trivial⟩ ?_
        have hp1 := szRule_rng (x0.getD i1 default) v1
        revert hR; refine cd (fun hc3 hR => ?_) fun hc3 hR => ?_
        ·
          refine rg trivial ?_
          exact congrArg C82 hR
        ·
          refine rg ⟨by ((try simp only [inR]); omega), trivial⟩ ?_
          exact hK1 (szRule (x0.getD i1 default) v1) hii1 (by (intros; omega)) hR
      · obtain rfl : i1 = x0.length := by have := of_decide_eq_false hc2; omega
        replace hR := loopN_end hR (Nat.lt_irrefl _)
        refine rg trivial ?_
        exact congrArg C82 hR
  exact Fn.go 27 Try.func82 (by kernel_rfl) (by kernel_rfl) (by simp [C82, Frs, FrsL]) (A82 x0 x1) (by kernel_rfl) (aux _ rfl)
def k82 (x0 : List Rule) (x1 : Int) : Cl := (hres (C82 (szRuleS x0 x1)), k3 (ok_laws_szRuleS x0 x1))
def C153 (R : Int) : LV × List (Nat × BC) := (.int .i64 R, [])
def szEntry (x0 : Entry) (x1 : Int) : Int := bif (decide ((szKinType x0.type x1) < 0)) then (-1) else (bif (decide (((szKinType x0.type x1) - ((x0.term.length : Nat) : Int)) < 0)) then (-1) else ((szKinType x0.type x1) - ((x0.term.length : Nat) : Int)))
def A153 (x0 : Entry) (x1 : Int) : Ann := .reg 2 [] [(1003, k208 x0.type x1)] [1, 2, 4] [2] [] [] [] [0] (r0 1 [1, 2, 4, 10] [2] (cn (decide ((szKinType x0.type x1) < 0)) (r0 1 [1, 2, 4] [2] (rt [] (C153 (-1)))) (r1 1 [1, 4] [] [pf (inR .i64 ((szKinType x0.type x1) - ((x0.term.length : Nat) : Int)))] [0] (r0 1 [1, 4, 17] [] (cn (decide (((szKinType x0.type x1) - ((x0.term.length : Nat) : Int)) < 0)) (r0 1 [1, 4] [] (rt [] (C153 (-1)))) (r0 1 [4] [] (rt [] (C153 ((szKinType x0.type x1) - ((x0.term.length : Nat) : Int))))))))))
theorem szEntry_rng (x : Entry) (w : Int) : szEntry x w ≤ max w (-1) ∧ -1 ≤ szEntry x w := by
  unfold szEntry
  have b0 := szKinType_rng x.type w
  refine cond_both (p := fun (r : Int) => r ≤ max w (-1) ∧ -1 ≤ r) (fun _ => by omega) (fun c0 => ?_)
  have c0 := of_decide_eq_false c0
  refine cond_both (p := fun (r : Int) => r ≤ max w (-1) ∧ -1 ≤ r) (fun _ => by omega) (fun c1 => ?_)
  have c1 := of_decide_eq_false c1
  omega
theorem ok_laws_szEntry (x0 : Entry) (x1 : Int) (he : x0.term.length ≤ 1048576 ∧ x0.type.steps.length ≤ 1048576) (hw : -1 ≤ x1 ∧ x1 ≤ 1048576) : FnT Try.prog 153 [.agg (cEntry false x0), .int .i64 x1] (C153 (szEntry x0 x1)) := by
  have aux : ∀ R, szEntry x0 x1 = R → slim (C153 R) (A153 x0 x1) [] := by
    intro R hR
    refine rg ⟨⟨by (intros; omega), by with_reducible assumption⟩, trivial⟩ ?_
    have hp1 := szKinType_rng x0.type x1
    refine rg trivial ?_
    revert hR; refine cd (fun hc1 hR => ?_) fun hc1 hR => ?_
    ·
      refine rg trivial ?_
      exact congrArg C153 hR
    ·
      refine rg ⟨by ((try simp only [inR]); omega), trivial⟩ ?_
      refine rg trivial ?_
      revert hR; refine cd (fun hc2 hR => ?_) fun hc2 hR => ?_
      ·
        refine rg trivial ?_
        exact congrArg C153 hR
      ·
        refine rg trivial ?_
        exact congrArg C153 hR
  exact Fn.go 19 Try.func153 (by kernel_rfl) (by kernel_rfl) (by simp [C153, Frs, FrsL]) (A153 x0 x1) (by kernel_rfl) (aux _ rfl)
def k153 (x0 : Entry) (x1 : Int) : Cl := (hres (C153 (szEntry x0 x1)), k2 (ok_laws_szEntry x0 x1))
def C83 (R : Int) : LV × List (Nat × BC) := (.int .i64 R, [])
def szEntryS (x0 : List Entry) (x1 : Int) : Int := bif (decide ((x1 - ((x0.length : Nat) : Int)) < 0)) then (-1) else (loopN (fun i1 (v1 : Int) next => bif (decide ((szEntry (Entry.mk ((x0.getD i1 default).type) ((x0.getD i1 default).term)) v1) < 0)) then (-1) else (next (szEntry (Entry.mk ((x0.getD i1 default).type) ((x0.getD i1 default).term)) v1))) (fun (v1 : Int) => v1) x0.length 0 (x1 - ((x0.length : Nat) : Int)))
def D83b1 (x0 : List Entry) (x1 : Int) (i1 : Nat) (v1 : Int) : Dl := ⟨[(5, .int .i64 ((i1 : Nat) : Int)), (1, .int .i64 v1)], []⟩
def A83b1 (x0 : List Entry) (x1 : Int) (i1 : Nat) (v1 : Int) : Ann := r0 1 [0, 1, 4, 5, 15] [] (cn (decide (((i1 : Nat) : Int) < ((x0.length : Nat) : Int))) (.reg 2 [] [(5, k153 (Entry.mk ((x0.getD i1 default).type) ((x0.getD i1 default).term)) v1)] [0, 1, 4, 5, 25] [] [] [pf (0 ≤ (((i1 : Nat) : Int) : Int) ∧ (((i1 : Nat) : Int) : Int) < ((x0.length : Nat) : Int))] [] [0, 4] (cn (decide ((szEntry (Entry.mk ((x0.getD i1 default).type) ((x0.getD i1 default).term)) v1) < 0)) (r0 1 [0, 1, 4, 5] [] (rt [] (C83 (-1)))) (r1 1 [0, 1, 4, 5] [] [pf (inR .i64 (((i1 : Nat) : Int) + 1))] [0] (.next 0 [] (D83b1 x0 x1 (i1 + 1) (szEntry (Entry.mk ((x0.getD i1 default).type) ((x0.getD i1 default).term)) v1)))))) (r0 1 [4] [] (rt [] (C83 v1))))
def A83 (x0 : List Entry) (x1 : Int) : Ann := r1 2 [0, 1, 4] [] [pf (inR .i64 (x1 - ((x0.length : Nat) : Int)))] [0] (r0 1 [0, 1, 4, 11] [] (cn (decide ((x1 - ((x0.length : Nat) : Int)) < 0)) (r0 1 [0, 1, 4] [] (rt [] (C83 (-1)))) (r0 1 [0, 1, 4, 5] [] (lp (D83b1 x0 x1) [] [] [] (D83b1 x0 x1 0 (x1 - ((x0.length : Nat) : Int))) (A83b1 x0 x1)))))
theorem szEntryS_rng (x : List Entry) (w : Int) : szEntryS x w ≤ max w (-1) ∧ -1 ≤ szEntryS x w := by
  unfold szEntryS
  refine cond_both (p := fun (r : Int) => r ≤ max w (-1) ∧ -1 ≤ r) (fun _ => by omega) (fun c => ?_)
  have c := of_decide_eq_false c
  refine loopN_to (fun _ (v : Int) => v ≤ max w (-1) ∧ -1 ≤ v) (fun r => r ≤ max w (-1) ∧ -1 ≤ r) (by omega) (fun i v next hi hv hn => ?_) (fun v hv => hv)
  have h := szEntry_rng (Entry.mk (x.getD i default).type (x.getD i default).term) v
  exact cond_both (p := fun (r : Int) => r ≤ max w (-1) ∧ -1 ≤ r) (fun _ => by omega) (fun _ => hn _ (by omega))
theorem ok_laws_szEntryS (x0 : List Entry) (x1 : Int) (hx : x0.length ≤ 1048576) (hee : ∀ e ∈ x0, e.term.length ≤ 1048576 ∧ e.type.steps.length ≤ 1048576) (hw : -1 ≤ x1 ∧ x1 ≤ 1048576) : FnT Try.prog 83 [.ro false 3 x0.length (rowOf (cEntry false) x0), .int .i64 x1] (C83 (szEntryS x0 x1)) := by
  have aux : ∀ R, szEntryS x0 x1 = R → slim (C83 R) (A83 x0 x1) [] := by
    intro R hR
    refine rg ⟨by ((try simp only [inR]); omega), trivial⟩ ?_
    refine rg trivial ?_
    revert hR; refine cd (fun hc1 hR => ?_) fun hc1 hR => ?_
    ·
      refine rg trivial ?_
      exact congrArg C83 hR
    ·
      refine rg trivial ?_
      revert hR; refine lN (fun i v => -1 ≤ v ∧ v ≤ 1048576) (by (simp only [decide_eq_false_iff_not] at *; omega)) rfl fun i1 v1 F1 hn1 hI1 hR hK1 => ?_
      refine rg trivial ?_
      refine ⟨fun hc2 => ?_, fun hc2 => ?_⟩
      · have hii1 : i1 < x0.length := by have := of_decide_eq_true hc2; omega
        replace hR := loopN_step hR hii1
        refine rg ⟨by (intros; omega), ⟨by (exact hee _ (getD_mem (d := default) hii1)), by with_reducible assumption⟩, trivial⟩ ?_
        have hp1 := szEntry_rng (Entry.mk ((x0.getD i1 default).type) ((x0.getD i1 default).term)) v1
        revert hR; refine cd (fun hc3 hR => ?_) fun hc3 hR => ?_
        ·
          refine rg trivial ?_
          exact congrArg C83 hR
        ·
          refine rg ⟨by ((try simp only [inR]); omega), trivial⟩ ?_
          exact hK1 (szEntry (Entry.mk ((x0.getD i1 default).type) ((x0.getD i1 default).term)) v1) hii1 (by (intros; omega)) hR
      · obtain rfl : i1 = x0.length := by have := of_decide_eq_false hc2; omega
        replace hR := loopN_end hR (Nat.lt_irrefl _)
        refine rg trivial ?_
        exact congrArg C83 hR
  exact Fn.go 27 Try.func83 (by kernel_rfl) (by kernel_rfl) (by simp [C83, Frs, FrsL]) (A83 x0 x1) (by kernel_rfl) (aux _ rfl)
def k83 (x0 : List Entry) (x1 : Int) : Cl := (hres (C83 (szEntryS x0 x1)), k3 (ok_laws_szEntryS x0 x1))
def C31 (R : Int) : LV × List (Nat × BC) := (.int .i64 R, [])
def szTerminology (x0 : Terminology) (x1 : Int) : Int := bif (decide ((szRuleS x0.rules x1) < 0)) then (-1) else (bif (decide ((szEntryS x0.entries (szRuleS x0.rules x1)) < 0)) then (-1) else (szEntryS x0.entries (szRuleS x0.rules x1)))
def A31 (x0 : Terminology) (x1 : Int) : Ann := .reg 2 [] [(1003, k82 x0.rules x1)] [1, 2, 4] [2] [] [] [] [0] (r0 1 [1, 2, 4, 10] [2] (cn (decide ((szRuleS x0.rules x1) < 0)) (r0 1 [1, 2, 4] [2] (rt [] (C31 (-1)))) (.reg 1 [] [(3, k83 x0.entries (szRuleS x0.rules x1))] [1, 4] [] [] [] [] [0] (r0 1 [1, 4, 16] [] (cn (decide ((szEntryS x0.entries (szRuleS x0.rules x1)) < 0)) (r0 1 [1, 4] [] (rt [] (C31 (-1)))) (r0 1 [4] [] (rt [] (C31 (szEntryS x0.entries (szRuleS x0.rules x1))))))))))
theorem szTerminology_rng (x : Terminology) (w : Int) : szTerminology x w ≤ max w (-1) ∧ -1 ≤ szTerminology x w := by
  unfold szTerminology
  have b0 := szRuleS_rng x.rules w
  refine cond_both (p := fun (r : Int) => r ≤ max w (-1) ∧ -1 ≤ r) (fun _ => by omega) (fun c0 => ?_)
  have c0 := of_decide_eq_false c0
  have b1 := szEntryS_rng x.entries (szRuleS x.rules w)
  refine cond_both (p := fun (r : Int) => r ≤ max w (-1) ∧ -1 ≤ r) (fun _ => by omega) (fun c1 => ?_)
  have c1 := of_decide_eq_false c1
  omega
theorem ok_laws_szTerminology (x0 : Terminology) (x1 : Int) (hx : x0.rules.length ≤ 1048576) (hr : ∀ r ∈ x0.rules, r.name.length ≤ 1048576 ∧ r.from0.length ≤ 1048576 ∧ r.to.length ≤ 1048576) (he : x0.entries.length ≤ 1048576) (hee : ∀ e ∈ x0.entries, e.term.length ≤ 1048576 ∧ e.type.steps.length ≤ 1048576) (hw : -1 ≤ x1 ∧ x1 ≤ 1048576) : FnT Try.prog 31 [.agg (cTerminology false x0), .int .i64 x1] (C31 (szTerminology x0 x1)) := by
  have aux : ∀ R, szTerminology x0 x1 = R → slim (C31 R) (A31 x0 x1) [] := by
    intro R hR
    refine rg ⟨⟨by with_reducible assumption, by with_reducible assumption, by with_reducible assumption⟩, trivial⟩ ?_
    have hp1 := szRuleS_rng x0.rules x1
    refine rg trivial ?_
    revert hR; refine cd (fun hc1 hR => ?_) fun hc1 hR => ?_
    ·
      refine rg trivial ?_
      exact congrArg C31 hR
    ·
      refine rg ⟨⟨by with_reducible assumption, by with_reducible assumption, by (intros; omega)⟩, trivial⟩ ?_
      have hp2 := szEntryS_rng x0.entries (szRuleS x0.rules x1)
      refine rg trivial ?_
      revert hR; refine cd (fun hc2 hR => ?_) fun hc2 hR => ?_
      ·
        refine rg trivial ?_
        exact congrArg C31 hR
      ·
        refine rg trivial ?_
        exact congrArg C31 hR
  exact Fn.go 18 Try.func31 (by kernel_rfl) (by kernel_rfl) (by simp [C31, Frs, FrsL]) (A31 x0 x1) (by kernel_rfl) (aux _ rfl)
def k31 (x0 : Terminology) (x1 : Int) : Cl := (hres (C31 (szTerminology x0 x1)), k5 (ok_laws_szTerminology x0 x1))
def C7 (R : Int) : LV × List (Nat × BC) := (.int .i64 R, [])
def szRegister (x0 : Register) (x1 : Int) : Int := bif (decide ((szFamily x0.family x1) < 0)) then (-1) else (bif (decide ((szTerminology x0.terms (szFamily x0.family x1)) < 0)) then (-1) else (szTerminology x0.terms (szFamily x0.family x1)))
def A7 (x0 : Register) (x1 : Int) : Ann := .reg 2 [] [(1003, k30 x0.family x1)] [1, 2, 4] [2] [] [] [] [0] (r0 1 [1, 2, 4, 10] [2] (cn (decide ((szFamily x0.family x1) < 0)) (r0 1 [1, 2, 4] [2] (rt [] (C7 (-1)))) (.reg 1 [] [(3, k31 x0.terms (szFamily x0.family x1))] [1, 4] [] [] [] [] [0] (r0 1 [1, 4, 16] [] (cn (decide ((szTerminology x0.terms (szFamily x0.family x1)) < 0)) (r0 1 [1, 4] [] (rt [] (C7 (-1)))) (r0 1 [4] [] (rt [] (C7 (szTerminology x0.terms (szFamily x0.family x1))))))))))
theorem szRegister_rng (x : Register) (w : Int) : szRegister x w ≤ max w (-1) ∧ -1 ≤ szRegister x w := by
  unfold szRegister
  have b0 := szFamily_rng x.family w
  refine cond_both (p := fun (r : Int) => r ≤ max w (-1) ∧ -1 ≤ r) (fun _ => by omega) (fun c0 => ?_)
  have c0 := of_decide_eq_false c0
  have b1 := szTerminology_rng x.terms (szFamily x.family w)
  refine cond_both (p := fun (r : Int) => r ≤ max w (-1) ∧ -1 ≤ r) (fun _ => by omega) (fun c1 => ?_)
  have c1 := of_decide_eq_false c1
  omega
theorem ok_laws_szRegister (x0 : Register) (x1 : Int) (hp : x0.family.people.length ≤ 1048576 ∧ x0.family.unions.length ≤ 1048576) (hn : ∀ p ∈ x0.family.people, p.name.length ≤ 1048576) (hx : x0.terms.rules.length ≤ 1048576) (hr : ∀ r ∈ x0.terms.rules, r.name.length ≤ 1048576 ∧ r.from0.length ≤ 1048576 ∧ r.to.length ≤ 1048576) (he : x0.terms.entries.length ≤ 1048576) (hee : ∀ e ∈ x0.terms.entries, e.term.length ≤ 1048576 ∧ e.type.steps.length ≤ 1048576) (hw : -1 ≤ x1 ∧ x1 ≤ 1048576) : FnT Try.prog 7 [.agg (cRegister false x0), .int .i64 x1] (C7 (szRegister x0 x1)) := by
  have aux : ∀ R, szRegister x0 x1 = R → slim (C7 R) (A7 x0 x1) [] := by
    intro R hR
    refine rg ⟨⟨by with_reducible assumption, by with_reducible assumption, by with_reducible assumption⟩, trivial⟩ ?_
    refine rg trivial ?_
    revert hR; refine cd (fun hc1 hR => ?_) fun hc1 hR => ?_
    ·
      refine rg trivial ?_
      exact congrArg C7 hR
    ·
      refine rg ⟨⟨by with_reducible assumption, by with_reducible assumption, by with_reducible assumption, by with_reducible assumption, by (have h9 := szFamily_rng x0.family x1; simp only [decide_eq_false_iff_not] at *; omega)⟩, trivial⟩ ?_
      have hp1 := szTerminology_rng x0.terms (szFamily x0.family x1)
      refine rg trivial ?_
      revert hR; refine cd (fun hc2 hR => ?_) fun hc2 hR => ?_
      ·
        refine rg trivial ?_
        exact congrArg C7 hR
      ·
        refine rg trivial ?_
        exact congrArg C7 hR
  exact Fn.go 18 Try.func7 (by kernel_rfl) (by kernel_rfl) (by simp [C7, Frs, FrsL]) (A7 x0 x1) (by kernel_rfl) (aux _ rfl)
def k7 (x0 : Register) (x1 : Int) : Cl := (hres (C7 (szRegister x0 x1)), Go.Lite.k7 (ok_laws_szRegister x0 x1))
end Go.Proofs.Ytanfabaedopeiaa
