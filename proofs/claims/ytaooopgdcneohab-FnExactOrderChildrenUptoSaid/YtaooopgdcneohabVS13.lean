import Derived.Test.YtaooopgdcneohabM121
set_option maxHeartbeats 4000000
set_option linter.unusedSimpArgs false
set_option linter.unusedVariables false
namespace Go.Proofs.Ytaooopgdcneohab
open Go Go.Lite Go.Proofs
def C66 (R : Bool) : LV × List (Nat × BC) := (.bool R, [])
def specIsCustom (x0 : Custom) : Bool := l1In x0.prefer 0 4
def A66 (x0 : Custom) : Ann := .reg 2 [] [(1002, k73 x0.prefer 0 4)] [2] [] [] [] [] [0] (rt [] (C66 (l1In x0.prefer 0 4)))
theorem ok_spec_IsCustom (x0 : Custom) : FnT Try.prog 66 [.agg (cCustom false x0)] (C66 (specIsCustom x0)) := by
  have aux : ∀ R, specIsCustom x0 = R → slim (C66 R) (A66 x0) [] := by
    intro R hR
    refine rg ⟨trivial, trivial⟩ ?_
    exact congrArg C66 hR
  exact Fn.go 6 Try.func66 (by kernel_rfl) (by kernel_rfl) (by simp [C66, Frs, FrsL]) (A66 x0) (by kernel_rfl) (aux _ rfl)
def k66 (x0 : Custom) : Cl := (hres (C66 (specIsCustom x0)), k0 (ok_spec_IsCustom x0))
def C70 (R : Bool) : LV × List (Nat × BC) := (.bool R, [])
def implIsCustom (x0 : Custom) : Bool := (decide (0 ≤ x0.prefer)) && (decide (x0.prefer ≤ 4))
def A70 (x0 : Custom) : Ann := .reg 2 [] [] [2] [] [decide (0 ≤ x0.prefer)] [] [] [1, 1, 1] (rt [] (C70 ((decide (0 ≤ x0.prefer)) && (decide (x0.prefer ≤ 4)))))
theorem ok_impl_IsCustom (x0 : Custom) : FnT Try.prog 70 [.agg (cCustom false x0)] (C70 (implIsCustom x0)) := by
  have aux : ∀ R, implIsCustom x0 = R → slim (C70 R) (A70 x0) [] := by
    intro R hR
    refine rg trivial ?_
    exact congrArg C70 hR
  exact Fn.go 11 Try.func70 (by kernel_rfl) (by kernel_rfl) (by simp [C70, Frs, FrsL]) (A70 x0) (by kernel_rfl) (aux _ rfl)
def k70 (x0 : Custom) : Cl := (hres (C70 (implIsCustom x0)), k0 (ok_impl_IsCustom x0))
def C31 (R : (List Int)) : LV × List (Nat × BC) := (.own 0, [(0, .arr 1 R.length (rowOf (cInt .i64) R))])
def specOrder (x0 : Family) (x1 : Custom) (x2 : Int) : (List Int) := bif ((!(specIsCustom x1)) || (!(l1Has x0 x2))) then ([] : List Int) else (l10Children x0 x1 x2)
def A31 (x0 : Family) (x1 : Custom) (x2 : Int) : Ann := r0 1 [2, 3, 4, 6] [3, 4] (.reg 1 [] [(1, k66 x1), (6, cg (!(!(specIsCustom x1))) (k67 x0 x2))] [2, 3, 4, 6, 15] [3, 4] [!(!(specIsCustom x1)), !(specIsCustom x1)] [] [] [0, 1, 1, 4, 1, 6] (cn ((!(specIsCustom x1)) || (!(l1Has x0 x2))) (r0 1 [2, 3, 4, 6] [3, 4] (rt [(0, none)] (C31 ([] : List Int)))) (.reg 1 [] [(3, k68 x0 x1 x2)] [6] [1019] [] [] [] [0] (rt [(0, some 1019)] (C31 (l10Children x0 x1 x2))))))
theorem ok_spec_OrderChildren (x0 : Family) (x1 : Custom) (x2 : Int) (hx : x0.people.length ≤ 1048576) (hu : x0.unions.length ≤ 1048576) (hn : ∀ p ∈ x0.people, p.name.length ≤ 1048576) : FnT Try.prog 31 [.agg (cFamily false x0), .agg (cCustom false x1), .int .i64 x2] (C31 (specOrder x0 x1 x2)) := by
  have aux : ∀ R, specOrder x0 x1 x2 = R → slim (C31 R) (A31 x0 x1 x2) [] := by
    intro R hR
    refine rg trivial ?_
    refine rg ⟨trivial, fun hg0 => ⟨by trivial, by trivial, by trivial⟩, trivial⟩ ?_
    revert hR; refine cd (fun hc1 hR => ?_) fun hc1 hR => ?_
    ·
      refine rg trivial ?_
      exact congrArg C31 hR
    ·
      refine rg ⟨by (have h9 := ord_pre hc1; omega), trivial⟩ ?_
      exact congrArg C31 hR
  exact Fn.go 20 Try.func31 (by kernel_rfl) (by kernel_rfl) (by simp [C31, Frs, FrsL, FrsB, rowOf, cInt, cBool, cStr, cSl, FrsL_app, cPerson, cUnion, cFamily, cCustom]) (A31 x0 x1 x2) (by kernel_rfl) (aux _ rfl)
def k31 (x0 : Family) (x1 : Custom) (x2 : Int) : Cl := (hres (C31 (specOrder x0 x1 x2)), k3 (ok_spec_OrderChildren x0 x1 x2))
def C33 (R : (List Int)) : LV × List (Nat × BC) := (.own 0, [(0, .arr 1 R.length (rowOf (cInt .i64) R))])
def implOrderC (x0 : Family) (x1 : Custom) (x2 : Int) : (List Int) := bif ((!(implHas x0 [x2])) || (!(implIsCustom x1))) then ([] : List Int) else (implOrder x0 x1 x2)
def A33 (x0 : Family) (x1 : Custom) (x2 : Int) : Ann := r0 1 [2, 3, 4, 6] [3, 4] (.reg 1 [] [(2, bsC 9 (cInt .i64) ([x2] : List Int)), (3, k69 x0 [x2]), (7, cg (!(!(implHas x0 [x2]))) (k70 x1))] [2, 3, 4, 6, 16] [3, 4] [!(!(implHas x0 [x2])), !(implHas x0 [x2])] [] [] [0, 4, 1, 8, 1, 6] (cn ((!(implHas x0 [x2])) || (!(implIsCustom x1))) (r0 1 [2, 3, 4, 6] [3, 4] (rt [(0, none)] (C33 ([] : List Int)))) (.reg 1 [] [(3, k71 x0 x1 x2)] [6] [1020] [] [] [] [0] (rt [(0, some 1020)] (C33 (implOrder x0 x1 x2))))))
theorem ok_impl_OrderChildren (x0 : Family) (x1 : Custom) (x2 : Int) (hx : x0.people.length ≤ 1048576) (hu : x0.unions.length ≤ 1048576) (hn : ∀ p ∈ x0.people, p.name.length ≤ 1048576) : FnT Try.prog 33 [.agg (cFamily false x0), .agg (cCustom false x1), .int .i64 x2] (C33 (implOrderC x0 x1 x2)) := by
  have aux : ∀ R, implOrderC x0 x1 x2 = R → slim (C33 R) (A33 x0 x1 x2) [] := by
    intro R hR
    refine rg trivial ?_
    refine rg ⟨trivial, ⟨by trivial, by trivial, by trivial, by ((try clear hR); intros; (try simp only [decide_eq_true_eq, decide_eq_false_iff_not, Bool.or_eq_true, Bool.and_eq_true, or_f_iff, not_f_iff, not_t_iff, Bool.not_eq_true', inR] at *); (repeat' apply And.intro) <;> (simp_all [inR]; done))⟩, fun hg0 => trivial, trivial⟩ ?_
    revert hR; refine cd (fun hc1 hR => ?_) fun hc1 hR => ?_
    ·
      refine rg trivial ?_
      exact congrArg C33 hR
    ·
      refine rg ⟨by (have h9 := ord_pre2 hc1; omega), trivial⟩ ?_
      exact congrArg C33 hR
  exact Fn.go 21 Try.func33 (by kernel_rfl) (by kernel_rfl) (by simp [C33, Frs, FrsL, FrsB, rowOf, cInt, cBool, cStr, cSl, FrsL_app, cPerson, cUnion, cFamily, cCustom]) (A33 x0 x1 x2) (by kernel_rfl) (aux _ rfl)
def k33 (x0 : Family) (x1 : Custom) (x2 : Int) : Cl := (hres (C33 (implOrderC x0 x1 x2)), k3 (ok_impl_OrderChildren x0 x1 x2))
theorem isCustom_eq (x : Custom) : implIsCustom x = specIsCustom x := rfl
theorem order_eq (f : Family) (x : Custom) (p : Int) : implOrderC f x p = specOrder f x p := by
  unfold implOrderC specOrder
  have e : ((!(implHas f [p])) || (!(implIsCustom x))) = ((!(specIsCustom x)) || (!(l1Has f p))) := by
    rw [isCustom_eq, has1_eq, Bool.or_comm]
  rw [e]
  cases h : ((!(specIsCustom x)) || (!(l1Has f p))) with
  | true => rfl
  | false =>
    simp only [or_f_iff, not_f_iff, l1Has_iff] at h
    exact implOrder_val f x p (fam_n h.2.2).1
theorem specOrder_len (f : Family) (x : Custom) (p : Int) : (specOrder f x p).length ≤ 80 := by
  unfold specOrder
  refine cond_both (p := fun (r : List Int) => r.length ≤ 80) (fun _ => by simp) (fun h => ?_)
  simp only [or_f_iff, not_f_iff, l1Has_iff] at h
  have hn := (fam_n h.2.2).1
  have h1 := l10Of_len f x (l1Children f p) 1
  have h2 := l10Of_len f x (l1Children f p) 2
  have h0 := l10Of_len f x (l1Children f p) 0
  have h3 := (l1Children_okl f p).2
  unfold l10Children
  repeat' refine cond_both (p := fun (r : List Int) => r.length ≤ 80) (fun h => ?_) (fun h => ?_)
  all_goals (try simp only [List.length_append]); omega
def C32 (R : Custom) : LV × List (Nat × BC) := (.agg [.int .i64 R.prefer, .bool R.youngest, .bool R.represent], [])
def laws_toCustom_m (x0 : Custom) : Custom := x0
def A32 (x0 : Custom) : Ann := r0 6 [2] [2] (rt [] (C32 x0))
theorem ok_laws_toCustom (x0 : Custom) : FnT Try.prog 32 [.agg (cCustom false x0)] (C32 x0) := by
  have aux : ∀ R, laws_toCustom_m x0 = R → slim (C32 R) (A32 x0) [] := by
    intro R hR
    refine rg trivial ?_
    exact congrArg C32 hR
  exact Fn.go 14 Try.func32 (by kernel_rfl) (by kernel_rfl) (by simp [C32, Frs, FrsL]) (A32 x0) (by kernel_rfl) (aux _ rfl)
def k32 (x0 : Custom) : Cl := (hres (C32 x0), k0 (ok_laws_toCustom x0))
end Go.Proofs.Ytaooopgdcneohab
