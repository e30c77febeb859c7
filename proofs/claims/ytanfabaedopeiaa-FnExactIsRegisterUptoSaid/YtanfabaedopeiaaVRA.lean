import Derived.Test.YtanfabaedopeiaaVR9
set_option maxHeartbeats 4000000
set_option linter.unusedSimpArgs false
set_option linter.unusedVariables false
namespace Go.Proofs.Ytanfabaedopeiaa
open Go Go.Lite Go.Proofs
def C255 (R : Step) : LV × List (Nat × BC) := (.agg [.int .i64 R.kind, .int .i64 R.age], [])
def laws_toStep_m (x0 : Step) : Step := x0
def A255 (x0 : Step) : Ann := r0 5 [2] [2] (rt [] (C255 x0))
theorem ok_laws_toStep (x0 : Step) : FnT Try.prog 255 [.agg (cStep false x0)] (C255 x0) := by
  have aux : ∀ R, laws_toStep_m x0 = R → slim (C255 R) (A255 x0) [] := by
    intro R hR
    refine rg trivial ?_
    exact congrArg C255 hR
  exact Fn.go 11 Try.func255 (by kernel_rfl) (by kernel_rfl) (by simp [C255, Frs, FrsL]) (A255 x0) (by kernel_rfl) (aux _ rfl)
def k255 (x0 : Step) : Cl := (hres (C255 x0), k0 (ok_laws_toStep x0))
def C213 (R : (List Step)) : LV × List (Nat × BC) := (.own 0, [(0, .arr 2 R.length (rowOf (cStep true) R))])
def laws_toStepS_m (x0 : List Step) : (List Step) := loopN (fun i1 (v1 : (List Step)) next => next (v1.set i1 (x0.getD i1 default))) (fun (v1 : (List Step)) => v1) x0.length 0 (List.replicate x0.length (default : Step))
def D213b1 (x0 : List Step) (i1 : Nat) (v1 : (List Step)) : Dl := ⟨[(4, .int .i64 ((i1 : Nat) : Int)), (3, .own 20003)], [(20003, .arr 2 x0.length (rowOf (cStep true) v1))]⟩
def A213b1 (x0 : List Step) (i1 : Nat) (v1 : (List Step)) : Ann := r0 1 [0, 2, 3, 4, 11] [20003] (cn (decide (((i1 : Nat) : Int) < ((x0.length : Nat) : Int))) (.reg 1 [] [(6, k255 (x0.getD i1 default)), (8, stC 20003 (cStep true) x0.length v1 i1 (x0.getD i1 default))] [0, 2, 3, 4] [20003] [] [pf (0 ≤ (((i1 : Nat) : Int) : Int) ∧ (((i1 : Nat) : Int) : Int) < ((x0.length : Nat) : Int))] [] [0, 4, 0, 8] (r1 1 [0, 2, 3, 4] [20003] [pf (inR .i64 (((i1 : Nat) : Int) + 1))] [0] (.next 0 [(20003, some 20003)] (D213b1 x0 (i1 + 1) (v1.set i1 (x0.getD i1 default)))))) (r0 1 [2] [20003] (.co false 20003 v1.length (rowOf (cStep true) v1) [lnP (rowOf (cStep true) v1) x0.length v1.length] [] 0 (rt [(0, some 20003)] (C213 v1)))))
def A213 (x0 : List Step) : Ann := .reg 2 [] [(1002, msC 7 (cStep true) 16 ((x0.length : Nat) : Int) ((x0.length : Nat) : Int) x0.length (default : Step) (rfl))] [0, 2, 3] [7] [] [] [] [0] (r0 1 [0, 2, 3, 4] [7] (lp (D213b1 x0) [] [7] [(20003, some 7)] (D213b1 x0 0 (List.replicate x0.length (default : Step))) (A213b1 x0)))
theorem toStepS_id (x : List Step) : laws_toStepS_m x = x := loopN_copy x _ _ _ _ (by simp) (by simp) (fun k hk => absurd hk (by omega))
theorem ok_laws_toStepS (x0 : List Step) (hx : x0.length ≤ 1048576) : FnT Try.prog 213 [.ro false 2 x0.length (rowOf (cStep false) x0)] (C213 x0) := by
  have aux : ∀ R, laws_toStepS_m x0 = R → slim (C213 R) (A213 x0) [] := by
    intro R hR
    refine rg ⟨by (intros; omega), trivial⟩ ?_
    refine rg trivial ?_
    revert hR; refine lN (fun i v => v.length = x0.length) (by ((try clear hR); intros; (try simp only [decide_eq_true_eq, decide_eq_false_iff_not, Bool.or_eq_true, Bool.and_eq_true, or_f_iff, not_f_iff, not_t_iff, Bool.not_eq_true', inR] at *); (repeat' apply And.intro) <;> (simp_all [inR]; done))) rfl fun i1 v1 F1 hn1 hI1 hR hK1 => ?_
    refine rg trivial ?_
    refine ⟨fun hc1 => ?_, fun hc1 => ?_⟩
    · have hii1 : i1 < x0.length := by have := of_decide_eq_true hc1; omega
      replace hR := loopN_step hR hii1
      refine rg ⟨by (intros; omega), trivial, by (intros; omega), trivial⟩ ?_
      refine rg ⟨by ( intros; simp only [inR]; omega), trivial⟩ ?_
      exact hK1 (v1.set i1 (x0.getD i1 default)) hii1 (by ((try clear hR hK1); intros; (try simp only [decide_eq_true_eq, decide_eq_false_iff_not, Bool.or_eq_true, Bool.and_eq_true, or_f_iff, not_f_iff, not_t_iff, Bool.not_eq_true', inR] at *); (repeat' apply And.intro) <;> (simp_all [inR]; done))) hR
    · obtain rfl : i1 = x0.length := by have := of_decide_eq_false hc1; omega
      replace hR := loopN_end hR (Nat.lt_irrefl _)
      refine rg trivial ?_
      refine og (by (intros; omega)) ?_
      exact congrArg C213 hR
  exact Fn.go 23 Try.func213 (by kernel_rfl) (by kernel_rfl) (by simp [C213, Frs, FrsL, FrsB, rowOf, cInt, cBool, cStr, cSl, FrsL_app, cPerson, cUnion, cFamily, cStep, cKinType, cRule, cEntry, cTerminology, cLaw, cCustom, cRegister]) (A213 x0) (by kernel_rfl) (aux _ (toStepS_id x0))
def k213 (x0 : List Step) : Cl := (hres (C213 x0), k1 (ok_laws_toStepS x0))
def C214 (R : KinType) : LV × List (Nat × BC) := (.agg [.int .i64 R.ego, .own 0], [(0, .arr 2 R.steps.length (rowOf (cStep true) R.steps))])
def laws_toKinType_m (x0 : KinType) : KinType := x0
def A214 (x0 : KinType) : Ann := .reg 5 [] [(3002, k213 x0.steps)] [2] [2, 1009] [] [] [] [0] (rt [(0, some 1009)] (C214 x0))
theorem ok_laws_toKinType (x0 : KinType) (hx : x0.steps.length ≤ 1048576) : FnT Try.prog 214 [.agg (cKinType false x0)] (C214 x0) := by
  have aux : ∀ R, laws_toKinType_m x0 = R → slim (C214 R) (A214 x0) [] := by
    intro R hR
    refine rg ⟨by trivial, trivial⟩ ?_
    exact congrArg C214 hR
  exact Fn.go 12 Try.func214 (by kernel_rfl) (by kernel_rfl) (by simp [C214, Frs, FrsL, FrsB, rowOf, cInt, cBool, cStr, cSl, FrsL_app, cPerson, cUnion, cFamily, cStep, cKinType, cRule, cEntry, cTerminology, cLaw, cCustom, cRegister]) (A214 x0) (by kernel_rfl) (aux _ rfl)
def k214 (x0 : KinType) : Cl := (hres (C214 x0), k1 (ok_laws_toKinType x0))
def C163 (R : Rule) : LV × List (Nat × BC) := (.agg [.str R.name, .int .i64 R.sex, .int .i64 R.place, .own 0, .own 1], [(0, .arr 2 R.from0.length (rowOf (cStep true) R.from0)), (1, .arr 2 R.to.length (rowOf (cStep true) R.to))])
def laws_toRule_m (x0 : Rule) : Rule := x0
def A163 (x0 : Rule) : Ann := .reg 8 [] [(5002, k213 x0.from0), (6002, k213 x0.to)] [2] [2, 1015, 1019] [] [] [] [0, 4] (rt [(0, some 1015), (1, some 1019)] (C163 x0))
theorem ok_laws_toRule (x0 : Rule) (hr : x0.name.length ≤ 1048576 ∧ x0.from0.length ≤ 1048576 ∧ x0.to.length ≤ 1048576) : FnT Try.prog 163 [.agg (cRule false x0)] (C163 x0) := by
  have aux : ∀ R, laws_toRule_m x0 = R → slim (C163 R) (A163 x0) [] := by
    intro R hR
    refine rg ⟨by (intros; omega), by (intros; omega), trivial⟩ ?_
    exact congrArg C163 hR
  exact Fn.go 22 Try.func163 (by kernel_rfl) (by kernel_rfl) (by simp [C163, Frs, FrsL, FrsB, rowOf, cInt, cBool, cStr, cSl, FrsL_app, cPerson, cUnion, cFamily, cStep, cKinType, cRule, cEntry, cTerminology, cLaw, cCustom, cRegister]) (A163 x0) (by kernel_rfl) (aux _ rfl)
def k163 (x0 : Rule) : Cl := (hres (C163 x0), k1 (ok_laws_toRule x0))
def C95 (R : (List Rule)) : LV × List (Nat × BC) := (.own 0, [(0, .arr 5 R.length (rowOf (cRule true) R))])
def laws_toRuleS_m (x0 : List Rule) : (List Rule) := loopN (fun i1 (v1 : (List Rule)) next => next (v1.set i1 (x0.getD i1 default))) (fun (v1 : (List Rule)) => v1) x0.length 0 (List.replicate x0.length (default : Rule))
def D95b1 (x0 : List Rule) (i1 : Nat) (v1 : (List Rule)) : Dl := ⟨[(4, .int .i64 ((i1 : Nat) : Int)), (3, .own 20003)], [(20003, .arr 5 x0.length (rowOf (cRule true) v1))]⟩
def A95b1 (x0 : List Rule) (i1 : Nat) (v1 : (List Rule)) : Ann := r0 1 [0, 2, 3, 4, 11] [20003] (cn (decide (((i1 : Nat) : Int) < ((x0.length : Nat) : Int))) (.reg 1 [] [(6, k163 (x0.getD i1 default)), (8, stC 20003 (cRule true) x0.length v1 i1 (x0.getD i1 default))] [0, 2, 3, 4] [20003] [] [pf (0 ≤ (((i1 : Nat) : Int) : Int) ∧ (((i1 : Nat) : Int) : Int) < ((x0.length : Nat) : Int))] [] [0, 4, 0, 8] (r1 1 [0, 2, 3, 4] [20003] [pf (inR .i64 (((i1 : Nat) : Int) + 1))] [0] (.next 0 [(20003, some 20003)] (D95b1 x0 (i1 + 1) (v1.set i1 (x0.getD i1 default)))))) (r0 1 [2] [20003] (.co false 20003 v1.length (rowOf (cRule true) v1) [lnP (rowOf (cRule true) v1) x0.length v1.length] [] 0 (rt [(0, some 20003)] (C95 v1)))))
def A95 (x0 : List Rule) : Ann := .reg 2 [] [(1002, msW 7 (cRule true) 80 ((x0.length : Nat) : Int) ((x0.length : Nat) : Int) x0.length (default : Rule) [.str [], .int .i64 0, .int .i64 0, .nilS, .nilS] rfl (cellsLe_e (cellsLe_e (cellsLe_e (cellsLe_n (cellsLe_n cellsLe_nil))))))] [0, 2, 3] [7] [] [] [] [0] (r0 1 [0, 2, 3, 4] [7] (lp (D95b1 x0) [] [7] [(20003, some 7)] (D95b1 x0 0 (List.replicate x0.length (default : Rule))) (A95b1 x0)))
theorem toRuleS_id (x : List Rule) : laws_toRuleS_m x = x := loopN_copy x _ _ _ _ (by simp) (by simp) (fun k hk => absurd hk (by omega))
theorem ok_laws_toRuleS (x0 : List Rule) (hx : x0.length ≤ 1048576) (hr : ∀ r ∈ x0, r.name.length ≤ 1048576 ∧ r.from0.length ≤ 1048576 ∧ r.to.length ≤ 1048576) : FnT Try.prog 95 [.ro false 5 x0.length (rowOf (cRule false) x0)] (C95 x0) := by
  have aux : ∀ R, laws_toRuleS_m x0 = R → slim (C95 R) (A95 x0) [] := by
    intro R hR
    refine rg ⟨by (intros; omega), trivial⟩ ?_
    refine rg trivial ?_
    revert hR; refine lN (fun i v => v.length = x0.length) (by ((try clear hR); intros; (try simp only [decide_eq_true_eq, decide_eq_false_iff_not, Bool.or_eq_true, Bool.and_eq_true, or_f_iff, not_f_iff, not_t_iff, Bool.not_eq_true', inR] at *); (repeat' apply And.intro) <;> (simp_all [inR]; done))) rfl fun i1 v1 F1 hn1 hI1 hR hK1 => ?_
    refine rg trivial ?_
    refine ⟨fun hc1 => ?_, fun hc1 => ?_⟩
    · have hii1 : i1 < x0.length := by have := of_decide_eq_true hc1; omega
      replace hR := loopN_step hR hii1
      refine rg ⟨by (intros; omega), by (exact hr _ (getD_mem (d := default) hii1)), by (intros; omega), trivial⟩ ?_
      refine rg ⟨by ( intros; simp only [inR]; omega), trivial⟩ ?_
      exact hK1 (v1.set i1 (x0.getD i1 default)) hii1 (by ((try clear hR hK1); intros; (try simp only [decide_eq_true_eq, decide_eq_false_iff_not, Bool.or_eq_true, Bool.and_eq_true, or_f_iff, not_f_iff, not_t_iff, Bool.not_eq_true', inR] at *); (repeat' apply And.intro) <;> (simp_all [inR]; done))) hR
    · obtain rfl : i1 = x0.length := by have := of_decide_eq_false hc1; omega
      replace hR := loopN_end hR (Nat.lt_irrefl _)
      refine rg trivial ?_
      refine og (by (intros; omega)) ?_
      exact congrArg C95 hR
  exact Fn.go 23 Try.func95 (by kernel_rfl) (by kernel_rfl) (by simp [C95, Frs, FrsL, FrsB, rowOf, cInt, cBool, cStr, cSl, FrsL_app, cPerson, cUnion, cFamily, cStep, cKinType, cRule, cEntry, cTerminology, cLaw, cCustom, cRegister]) (A95 x0) (by kernel_rfl) (aux _ (toRuleS_id x0))
def k95 (x0 : List Rule) : Cl := (hres (C95 x0), k2 (ok_laws_toRuleS x0))
def C164 (R : Entry) : LV × List (Nat × BC) := (.agg [.int .i64 R.type.ego, .own 0, .str R.term], [(0, .arr 2 R.type.steps.length (rowOf (cStep true) R.type.steps))])
def laws_toEntry_m (x0 : Entry) : Entry := x0
def A164 (x0 : Entry) : Ann := .reg 5 [] [(2002, k214 x0.type)] [2] [2, 1006] [] [] [] [0] (rt [(0, some 1006)] (C164 x0))
theorem ok_laws_toEntry (x0 : Entry) (he : x0.term.length ≤ 1048576 ∧ x0.type.steps.length ≤ 1048576) : FnT Try.prog 164 [.agg (cEntry false x0)] (C164 x0) := by
  have aux : ∀ R, laws_toEntry_m x0 = R → slim (C164 R) (A164 x0) [] := by
    intro R hR
    refine rg ⟨by (intros; omega), trivial⟩ ?_
    exact congrArg C164 hR
  exact Fn.go 12 Try.func164 (by kernel_rfl) (by kernel_rfl) (by simp [C164, Frs, FrsL, FrsB, rowOf, cInt, cBool, cStr, cSl, FrsL_app, cPerson, cUnion, cFamily, cStep, cKinType, cRule, cEntry, cTerminology, cLaw, cCustom, cRegister]) (A164 x0) (by kernel_rfl) (aux _ rfl)
def k164 (x0 : Entry) : Cl := (hres (C164 x0), k1 (ok_laws_toEntry x0))
def C96 (R : (List Entry)) : LV × List (Nat × BC) := (.own 0, [(0, .arr 3 R.length (rowOf (cEntry true) R))])
def laws_toEntryS_m (x0 : List Entry) : (List Entry) := loopN (fun i1 (v1 : (List Entry)) next => next (v1.set i1 (Entry.mk ((x0.getD i1 default).type) ((x0.getD i1 default).term)))) (fun (v1 : (List Entry)) => v1) x0.length 0 (List.replicate x0.length (default : Entry))
def D96b1 (x0 : List Entry) (i1 : Nat) (v1 : (List Entry)) : Dl := ⟨[(4, .int .i64 ((i1 : Nat) : Int)), (3, .own 20003)], [(20003, .arr 3 x0.length (rowOf (cEntry true) v1))]⟩
def A96b1 (x0 : List Entry) (i1 : Nat) (v1 : (List Entry)) : Ann := r0 1 [0, 2, 3, 4, 11] [20003] (cn (decide (((i1 : Nat) : Int) < ((x0.length : Nat) : Int))) (.reg 1 [] [(6, k164 (Entry.mk ((x0.getD i1 default).type) ((x0.getD i1 default).term))), (8, stC 20003 (cEntry true) x0.length v1 i1 (Entry.mk ((x0.getD i1 default).type) ((x0.getD i1 default).term)))] [0, 2, 3, 4] [20003] [] [pf (0 ≤ (((i1 : Nat) : Int) : Int) ∧ (((i1 : Nat) : Int) : Int) < ((x0.length : Nat) : Int))] [] [0, 4, 0, 8] (r1 1 [0, 2, 3, 4] [20003] [pf (inR .i64 (((i1 : Nat) : Int) + 1))] [0] (.next 0 [(20003, some 20003)] (D96b1 x0 (i1 + 1) (v1.set i1 (Entry.mk ((x0.getD i1 default).type) ((x0.getD i1 default).term))))))) (r0 1 [2] [20003] (.co false 20003 v1.length (rowOf (cEntry true) v1) [lnP (rowOf (cEntry true) v1) x0.length v1.length] [] 0 (rt [(0, some 20003)] (C96 v1)))))
def A96 (x0 : List Entry) : Ann := .reg 2 [] [(1002, msW 7 (cEntry true) 48 ((x0.length : Nat) : Int) ((x0.length : Nat) : Int) x0.length (default : Entry) [.int .i64 0, .nilS, .str []] rfl (cellsLe_e (cellsLe_n (cellsLe_e cellsLe_nil))))] [0, 2, 3] [7] [] [] [] [0] (r0 1 [0, 2, 3, 4] [7] (lp (D96b1 x0) [] [7] [(20003, some 7)] (D96b1 x0 0 (List.replicate x0.length (default : Entry))) (A96b1 x0)))
theorem toEntryS_id (x : List Entry) : laws_toEntryS_m x = x := loopN_copy x _ _ _ _ (by simp) (by simp) (fun k hk => absurd hk (by omega))
theorem ok_laws_toEntryS (x0 : List Entry) (hx : x0.length ≤ 1048576) (hee : ∀ e ∈ x0, e.term.length ≤ 1048576 ∧ e.type.steps.length ≤ 1048576) : FnT Try.prog 96 [.ro false 3 x0.length (rowOf (cEntry false) x0)] (C96 x0) := by
  have aux : ∀ R, laws_toEntryS_m x0 = R → slim (C96 R) (A96 x0) [] := by
    intro R hR
    refine rg ⟨by (intros; omega), trivial⟩ ?_
    refine rg trivial ?_
    revert hR; refine lN (fun i v => v.length = x0.length) (by ((try clear hR); intros; (try simp only [decide_eq_true_eq, decide_eq_false_iff_not, Bool.or_eq_true, Bool.and_eq_true, or_f_iff, not_f_iff, not_t_iff, Bool.not_eq_true', inR] at *); (repeat' apply And.intro) <;> (simp_all [inR]; done))) rfl fun i1 v1 F1 hn1 hI1 hR hK1 => ?_
    refine rg trivial ?_
    refine ⟨fun hc1 => ?_, fun hc1 => ?_⟩
    · have hii1 : i1 < x0.length := by have := of_decide_eq_true hc1; omega
      replace hR := loopN_step hR hii1
      refine rg ⟨by (intros; omega), by (exact hee _ (getD_mem (d := default) hii1)), by (intros; omega), trivial⟩ ?_
      refine rg ⟨by ( intros; simp only [inR]; omega), trivial⟩ ?_
      exact hK1 (v1.set i1 (Entry.mk ((x0.getD i1 default).type) ((x0.getD i1 default).term))) hii1 (by ((try clear hR hK1); intros; (try simp only [decide_eq_true_eq, decide_eq_false_iff_not, Bool.or_eq_true, Bool.and_eq_true, or_f_iff, not_f_iff, not_t_iff, Bool.not_eq_true', inR] at *); (repeat' apply And.intro) <;> (simp_all [inR]; done))) hR
    · obtain rfl : i1 = x0.length := by have := of_decide_eq_false hc1; omega
      replace hR := loopN_end hR (Nat.lt_irrefl _)
      refine rg trivial ?_
      refine og (by (intros; omega)) ?_
      exact congrArg C96 hR
  exact Fn.go 23 Try.func96 (by kernel_rfl) (by kernel_rfl) (by simp [C96, Frs, FrsL, FrsB, rowOf, cInt, cBool, cStr, cSl, FrsL_app, cPerson, cUnion, cFamily, cStep, cKinType, cRule, cEntry, cTerminology, cLaw, cCustom, cRegister]) (A96 x0) (by kernel_rfl) (aux _ (toEntryS_id x0))
def k96 (x0 : List Entry) : Cl := (hres (C96 x0), k2 (ok_laws_toEntryS x0))
def C38 (R : Terminology) : LV × List (Nat × BC) := (.agg [.own 0, .own 1], [(0, .arr 5 R.rules.length (rowOf (cRule true) R.rules)), (1, .arr 3 R.entries.length (rowOf (cEntry true) R.entries))])
def laws_toTerminology_m (x0 : Terminology) : Terminology := x0
def A38 (x0 : Terminology) : Ann := .reg 5 [] [(2002, k95 x0.rules), (3002, k96 x0.entries)] [2] [2, 1006, 1010] [] [] [] [0, 4] (rt [(0, some 1006), (1, some 1010)] (C38 x0))
theorem ok_laws_toTerminology (x0 : Terminology) (hx : x0.rules.length ≤ 1048576) (hr : ∀ r ∈ x0.rules, r.name.length ≤ 1048576 ∧ r.from0.length ≤ 1048576 ∧ r.to.length ≤ 1048576) (he : x0.entries.length ≤ 1048576) (hee : ∀ e ∈ x0.entries, e.term.length ≤ 1048576 ∧ e.type.steps.length ≤ 1048576) : FnT Try.prog 38 [.agg (cTerminology false x0)] (C38 x0) := by
  have aux : ∀ R, laws_toTerminology_m x0 = R → slim (C38 R) (A38 x0) [] := by
    intro R hR
    refine rg ⟨⟨by trivial, by trivial⟩, ⟨by trivial, by trivial⟩, trivial⟩ ?_
    exact congrArg C38 hR
  exact Fn.go 13 Try.func38 (by kernel_rfl) (by kernel_rfl) (by simp [C38, Frs, FrsL, FrsB, rowOf, cInt, cBool, cStr, cSl, FrsL_app, cPerson, cUnion, cFamily, cStep, cKinType, cRule, cEntry, cTerminology, cLaw, cCustom, cRegister]) (A38 x0) (by kernel_rfl) (aux _ rfl)
def k38 (x0 : Terminology) : Cl := (hres (C38 x0), k4 (ok_laws_toTerminology x0))
def C9 (R : Register) : LV × List (Nat × BC) := (.agg [.own 0, .own 1, .int .i64 R.law.degree, .int .i64 R.law.canon, .int .i64 R.law.affinity, .int .i64 R.law.age, .int .i64 R.law.wives, .int .i64 R.law.husbands, .bool R.law.patriline, .bool R.law.matriline, .own 2, .own 3, .int .i64 R.custom.prefer, .bool R.custom.youngest, .bool R.custom.represent], [(0, .arr 6 R.family.people.length (rowOf (cPerson true) R.family.people)), (1, .arr 4 R.family.unions.length (rowOf (cUnion true) R.family.unions)), (2, .arr 5 R.terms.rules.length (rowOf (cRule true) R.terms.rules)), (3, .arr 3 R.terms.entries.length (rowOf (cEntry true) R.terms.entries))])
def laws_toRegister_m (x0 : Register) : Register := x0
def A9 (x0 : Register) : Ann := .reg 7 [] [(2002, k36 x0.family), (3002, k37 x0.law), (4002, k38 x0.terms), (5002, k39 x0.custom)] [2] [2, 1006, 1014, 2006, 2014] [] [] [] [0, 4, 8, 12] (rt [(0, some 1006), (1, some 2006), (2, some 1014), (3, some 2014)] (C9 x0))
theorem ok_laws_toRegister (x0 : Register) (hp : x0.family.people.length ≤ 1048576 ∧ x0.family.unions.length ≤ 1048576) (hn : ∀ p ∈ x0.family.people, p.name.length ≤ 1048576) (hx : x0.terms.rules.length ≤ 1048576) (hr : ∀ r ∈ x0.terms.rules, r.name.length ≤ 1048576 ∧ r.from0.length ≤ 1048576 ∧ r.to.length ≤ 1048576) (he : x0.terms.entries.length ≤ 1048576) (hee : ∀ e ∈ x0.terms.entries, e.term.length ≤ 1048576 ∧ e.type.steps.length ≤ 1048576) : FnT Try.prog 9 [.agg (cRegister false x0)] (C9 x0) := by
  have aux : ∀ R, laws_toRegister_m x0 = R → slim (C9 R) (A9 x0) [] := by
    intro R hR
    refine rg ⟨by trivial, trivial, ⟨by trivial, by trivial, by trivial, by trivial⟩, trivial, trivial⟩ ?_
    exact congrArg C9 hR
  exact Fn.go 21 Try.func9 (by kernel_rfl) (by kernel_rfl) (by simp [C9, Frs, FrsL, FrsB, rowOf, cInt, cBool, cStr, cSl, FrsL_app, cPerson, cUnion, cFamily, cStep, cKinType, cRule, cEntry, cTerminology, cLaw, cCustom, cRegister]) (A9 x0) (by kernel_rfl) (aux _ rfl)
def k9 (x0 : Register) : Cl := (hres (C9 x0), k6 (ok_laws_toRegister x0))
end Go.Proofs.Ytanfabaedopeiaa
