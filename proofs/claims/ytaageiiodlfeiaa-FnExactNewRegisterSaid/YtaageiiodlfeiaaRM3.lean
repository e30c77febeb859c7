import Derived.Test.YtaageiiodlfeiaaRM2
set_option maxHeartbeats 4000000
set_option linter.unusedSimpArgs false
set_option linter.unusedVariables false
namespace Go.Proofs.Ytaageiiodlfeiaa
open Go Go.Lite Go.Proofs
def C32 (x0 : Terminology) (x1 : Int) (R : Int × Terminology) : LV × List (Nat × BC) := (.int .i64 R.1, [(900000, .nest 5 true 2 R.2.rules.length (nwOf 5 nRule R.2.rules)), (900001, .nest 3 true 2 R.2.entries.length (nwOf 3 nEntry R.2.entries))])
def markTerms (x0 : Terminology) (x1 : Int) : Int × Terminology := ((markEntryS x0.entries ((markRuleS x0.rules x1).1)).1, (Terminology.mk ((markRuleS x0.rules x1).2) ((markEntryS x0.entries ((markRuleS x0.rules x1).1)).2)))
def A32 (x0 : Terminology) (x1 : Int) : Ann := .reg 4 [] [(1003, k72 8 [900000] x0.rules x1), (2003, k73 12 [900001] x0.entries ((markRuleS x0.rules x1).1))] [4] [900000, 900001] [] [] [] [0, 4] (rt [(900000, some 900000), (900001, some 900001)] (C32 x0 x1 ((markEntryS x0.entries ((markRuleS x0.rules x1).1)).1, (Terminology.mk ((markRuleS x0.rules x1).2) ((markEntryS x0.entries ((markRuleS x0.rules x1).1)).2)))))
theorem ok_laws_markTerminology (x0 : Terminology) (x1 : Int) (hr : x0.rules.length ≤ 1000 ∧ ∀ r ∈ x0.rules, r.from0.length ≤ 1000 ∧ r.to.length ≤ 1000) (he : x0.entries.length ≤ 1000 ∧ ∀ r ∈ x0.entries, r.type.steps.length ≤ 1000) (hk : 0 ≤ x1 ∧ x1 ≤ 10000) (h2 : 0 ≤ (markRuleS x0.rules (x1)).1 ∧ (markRuleS x0.rules (x1)).1 ≤ 5000000) : FnMT Try.prog 32 [.agg [.own 900000, .own 900001], .int .i64 x1] [.nest 5 true 2 x0.rules.length (nwOf 5 nRule x0.rules), .nest 3 true 2 x0.entries.length (nwOf 3 nEntry x0.entries)] (C32 x0 x1 (markTerms x0 x1)) := by
  have aux : ∀ R, markTerms x0 x1 = R → slim (C32 x0 x1 R) (A32 x0 x1) [] := by
    intro R hR
    refine rg ⟨⟨by with_reducible assumption, by with_reducible assumption⟩, ⟨by with_reducible assumption, by with_reducible assumption⟩, trivial⟩ ?_
    exact congrArg (C32 x0 x1) hR
  exact FnM.go 14 Try.func32 (by kernel_rfl) (by kernel_rfl) (A32 x0 x1) (by kernel_rfl) (aux _ rfl)
def k32 (d : Nat) (ids : List Nat) (x0 : Terminology) (x1 : Int) : Cl := (hresM d ids (C32 x0 x1 (markTerms x0 x1)), k4 (ok_laws_markTerminology x0 x1))
def C34 (R : Int) : LV × List (Nat × BC) := (.int .i64 R, [])
def heldTerms (x0 : Terminology) (x1 : Int) : Int := bif (decide ((heldRuleS x0.rules x1) < 0)) then (-1) else (bif (decide ((heldEntryS x0.entries (heldRuleS x0.rules x1)) < 0)) then (-1) else (heldEntryS x0.entries (heldRuleS x0.rules x1)))
def A34 (x0 : Terminology) (x1 : Int) : Ann := .reg 2 [] [(1003, k76 x0.rules x1)] [1, 2, 4] [2] [] [] [] [0] (r0 1 [1, 2, 4, 10] [2] (cn (decide ((heldRuleS x0.rules x1) < 0)) (r0 1 [1, 2, 4] [2] (rt [] (C34 (-1)))) (.reg 1 [] [(3, k77 x0.entries (heldRuleS x0.rules x1))] [1, 4] [] [] [] [] [0] (r0 1 [1, 4, 16] [] (cn (decide ((heldEntryS x0.entries (heldRuleS x0.rules x1)) < 0)) (r0 1 [1, 4] [] (rt [] (C34 (-1)))) (r0 1 [4] [] (rt [] (C34 (heldEntryS x0.entries (heldRuleS x0.rules x1))))))))))
theorem ok_laws_heldTerminology (x0 : Terminology) (x1 : Int) (hr : x0.rules.length ≤ 1000 ∧ ∀ r ∈ x0.rules, r.from0.length ≤ 1000 ∧ r.to.length ≤ 1000) (he : x0.entries.length ≤ 1000 ∧ ∀ r ∈ x0.entries, r.type.steps.length ≤ 1000) (hk : 0 ≤ x1 ∧ x1 ≤ 10000) (h2 : heldRuleS x0.rules (x1) ≤ 5000000) : FnT Try.prog 34 [.agg (cTerminology false x0), .int .i64 x1] (C34 (heldTerms x0 x1)) := by
  have aux : ∀ R, heldTerms x0 x1 = R → slim (C34 R) (A34 x0 x1) [] := by
    intro R hR
    refine rg ⟨⟨by with_reducible assumption, by with_reducible assumption⟩, trivial⟩ ?_
    refine rg trivial ?_
    revert hR; refine cd (fun hc1 hR => ?_) fun hc1 hR => ?_
    ·
      refine rg trivial ?_
      exact congrArg C34 hR
    ·
      refine rg ⟨⟨by with_reducible assumption, by ((have h9 := of_decide_eq_false hc1; omega))⟩, trivial⟩ ?_
      refine rg trivial ?_
      revert hR; refine cd (fun hc2 hR => ?_) fun hc2 hR => ?_
      ·
        refine rg trivial ?_
        exact congrArg C34 hR
      ·
        refine rg trivial ?_
        exact congrArg C34 hR
  exact Fn.go 18 Try.func34 (by kernel_rfl) (by kernel_rfl) (by simp [C34, Frs, FrsL]) (A34 x0 x1) (by kernel_rfl) (aux _ rfl)
def k34 (x0 : Terminology) (x1 : Int) : Cl := (hres (C34 (heldTerms x0 x1)), k4 (ok_laws_heldTerminology x0 x1))
def C9 (x0 : Register) (x1 : Int) (R : Int × Register) : LV × List (Nat × BC) := (.int .i64 R.1, [(900000, .arr 6 R.2.family.people.length (rowOf (cPerson true) R.2.family.people)), (900001, .arr 4 R.2.family.unions.length (rowOf (cUnion true) R.2.family.unions)), (900002, .nest 5 true 2 R.2.terms.rules.length (nwOf 5 nRule R.2.terms.rules)), (900003, .nest 3 true 2 R.2.terms.entries.length (nwOf 3 nEntry R.2.terms.entries))])
def markReg (x0 : Register) (x1 : Int) : Int × Register := ((markTerms x0.terms ((markFamily x0.family x1).1)).1, (Register.mk ((markFamily x0.family x1).2) x0.law ((markTerms x0.terms ((markFamily x0.family x1).1)).2) x0.custom))
def A9 (x0 : Register) (x1 : Int) : Ann := .reg 4 [] [(1003, k31 8 [900000, 900001] x0.family x1), (2003, k32 12 [900002, 900003] x0.terms ((markFamily x0.family x1).1))] [4] [900000, 900001, 900002, 900003] [] [] [] [0, 4] (rt [(900000, some 900000), (900001, some 900001), (900002, some 900002), (900003, some 900003)] (C9 x0 x1 ((markTerms x0.terms ((markFamily x0.family x1).1)).1, (Register.mk ((markFamily x0.family x1).2) x0.law ((markTerms x0.terms ((markFamily x0.family x1).1)).2) x0.custom))))
theorem ok_laws_markRegister (x0 : Register) (x1 : Int) (hf : (x0.family.people.length ≤ 100 ∧ x0.family.unions.length ≤ 100) ∧ 0 ≤ x1 ∧ x1 ≤ 100) (hr : x0.terms.rules.length ≤ 1000 ∧ ∀ r ∈ x0.terms.rules, r.from0.length ≤ 1000 ∧ r.to.length ≤ 1000) (he : x0.terms.entries.length ≤ 1000 ∧ ∀ r ∈ x0.terms.entries, r.type.steps.length ≤ 1000) (hk : 0 ≤ (markFamily x0.family x1).1 ∧ (markFamily x0.family x1).1 ≤ 10000) (h2 : 0 ≤ (markRuleS x0.terms.rules ((markFamily x0.family x1).1)).1 ∧ (markRuleS x0.terms.rules ((markFamily x0.family x1).1)).1 ≤ 5000000) : FnMT Try.prog 9 [.agg [.own 900000, .own 900001, .int .i64 x0.law.degree, .int .i64 x0.law.canon, .int .i64 x0.law.affinity, .int .i64 x0.law.age, .int .i64 x0.law.wives, .int .i64 x0.law.husbands, .bool x0.law.patriline, .bool x0.law.matriline, .own 900002, .own 900003, .int .i64 x0.custom.prefer, .bool x0.custom.youngest, .bool x0.custom.represent], .int .i64 x1] [.arr 6 x0.family.people.length (rowOf (cPerson true) x0.family.people), .arr 4 x0.family.unions.length (rowOf (cUnion true) x0.family.unions), .nest 5 true 2 x0.terms.rules.length (nwOf 5 nRule x0.terms.rules), .nest 3 true 2 x0.terms.entries.length (nwOf 3 nEntry x0.terms.entries)] (C9 x0 x1 (markReg x0 x1)) := by
  have aux : ∀ R, markReg x0 x1 = R → slim (C9 x0 x1 R) (A9 x0 x1) [] := by
    intro R hR
    refine rg ⟨⟨by (intros; omega), by (intros; omega), by (intros; omega)⟩, ⟨by with_reducible assumption, by with_reducible assumption, by with_reducible assumption, by with_reducible assumption⟩, trivial⟩ ?_
    exact congrArg (C9 x0 x1) hR
  exact FnM.go 14 Try.func9 (by kernel_rfl) (by kernel_rfl) (A9 x0 x1) (by kernel_rfl) (aux _ rfl)
def k9 (d : Nat) (ids : List Nat) (x0 : Register) (x1 : Int) : Cl := (hresM d ids (C9 x0 x1 (markReg x0 x1)), k5 (ok_laws_markRegister x0 x1))
def C10 (R : Int) : LV × List (Nat × BC) := (.int .i64 R, [])
def heldReg (x0 : Register) (x1 : Int) : Int := bif (decide ((heldFamily x0.family x1) < 0)) then (-1) else (bif (decide ((heldTerms x0.terms (heldFamily x0.family x1)) < 0)) then (-1) else (heldTerms x0.terms (heldFamily x0.family x1)))
def A10 (x0 : Register) (x1 : Int) : Ann := .reg 2 [] [(1003, k33 x0.family x1)] [1, 2, 4] [2] [] [] [] [0] (r0 1 [1, 2, 4, 10] [2] (cn (decide ((heldFamily x0.family x1) < 0)) (r0 1 [1, 2, 4] [2] (rt [] (C10 (-1)))) (.reg 1 [] [(3, k34 x0.terms (heldFamily x0.family x1))] [1, 4] [] [] [] [] [0] (r0 1 [1, 4, 16] [] (cn (decide ((heldTerms x0.terms (heldFamily x0.family x1)) < 0)) (r0 1 [1, 4] [] (rt [] (C10 (-1)))) (r0 1 [4] [] (rt [] (C10 (heldTerms x0.terms (heldFamily x0.family x1))))))))))
theorem ok_laws_heldRegister (x0 : Register) (x1 : Int) (hf : (x0.family.people.length ≤ 100 ∧ x0.family.unions.length ≤ 100) ∧ 0 ≤ x1 ∧ x1 ≤ 100) (hz : heldFamily x0.family x1 ≤ 10000) (hr : x0.terms.rules.length ≤ 1000 ∧ ∀ r ∈ x0.terms.rules, r.from0.length ≤ 1000 ∧ r.to.length ≤ 1000) (he : x0.terms.entries.length ≤ 1000 ∧ ∀ r ∈ x0.terms.entries, r.type.steps.length ≤ 1000) (h2 : heldRuleS x0.terms.rules (heldFamily x0.family x1) ≤ 5000000) : FnT Try.prog 10 [.agg (cRegister false x0), .int .i64 x1] (C10 (heldReg x0 x1)) := by
  have aux : ∀ R, heldReg x0 x1 = R → slim (C10 R) (A10 x0 x1) [] := by
    intro R hR
    refine rg ⟨⟨by (intros; omega), by (intros; omega), by (intros; omega)⟩, trivial⟩ ?_
    refine rg trivial ?_
    revert hR; refine cd (fun hc1 hR => ?_) fun hc1 hR => ?_
    ·
      refine rg trivial ?_
      exact congrArg C10 hR
    ·
      refine rg ⟨⟨by with_reducible assumption, by with_reducible assumption, by ((have h9 := of_decide_eq_false hc1; omega)), by with_reducible assumption⟩, trivial⟩ ?_
      refine rg trivial ?_
      revert hR; refine cd (fun hc2 hR => ?_) fun hc2 hR => ?_
      ·
        refine rg trivial ?_
        exact congrArg C10 hR
      ·
        refine rg trivial ?_
        exact congrArg C10 hR
  exact Fn.go 18 Try.func10 (by kernel_rfl) (by kernel_rfl) (by simp [C10, Frs, FrsL]) (A10 x0 x1) (by kernel_rfl) (aux _ rfl)
end Go.Proofs.Ytaageiiodlfeiaa
