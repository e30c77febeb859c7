import Derived.Test.YtaooopgdcneohabM110
set_option maxHeartbeats 4000000
set_option linter.unusedSimpArgs false
set_option linter.unusedVariables false
namespace Go.Proofs.Ytaooopgdcneohab
open Go Go.Lite Go.Proofs
def C19 (R : Family × Bool) : LV × List (Nat × BC) := (.tup [.agg [.own 0, .own 1], .bool R.2], [(0, .arr 6 R.1.people.length (rowOf (cPerson true) R.1.people)), (1, .arr 4 R.1.unions.length (rowOf (cUnion true) R.1.unions))])
def specJoin (x0 : Family) (x1 : Law) (x2 : Int) (x3 : Int) (x4 : Int) : Family × Bool := bif (!(specMay x0 x1 x2 x3 x4)) then ((Family.mk ([] : List Person) ([] : List Union)), false) else (bif (!(specIsFamily (Family.mk ((l1Copy x0).people) (((l1Copy x0).unions) ++ [(Union.mk x2 x3 x4 (-1))])))) then ((Family.mk ([] : List Person) ([] : List Union)), false) else ((Family.mk ((l1Copy x0).people) (((l1Copy x0).unions) ++ [(Union.mk x2 x3 x4 (-1))])), true))
def A19 (x0 : Family) (x1 : Law) (x2 : Int) (x3 : Int) (x4 : Int) : Ann := r0 1 [2, 3, 4, 5, 6, 10, 11] [5, 6, 10] (.reg 1 [] [(5, k51 x0 x1 x2 x3 x4)] [2, 3, 4, 5, 10, 11, 19] [5, 10] [] [] [] [0] (cn (!(specMay x0 x1 x2 x3 x4)) (r0 1 [2, 3, 4, 5, 10, 11] [5, 10] (rt [(0, none), (1, none)] (C19 ((Family.mk ([] : List Person) ([] : List Union)), false)))) (.reg 2 [] [(1, k52 x0), (1006, bsC 29 (cUnion true) ([(Union.mk x2 x3 x4 (-1))] : List Union)), (1007, ap1 30 (cUnion true) 32 ((l1Copy x0).unions) (Union.mk x2 x3 x4 (-1)))] [10, 11, 12] [10, 12, 30, 1022] [] [] [] [0, 4, 8] (.reg 1 [] [(1, k40 (Family.mk ((l1Copy x0).people) (((l1Copy x0).unions) ++ [(Union.mk x2 x3 x4 (-1))])))] [10, 11, 12, 34] [10, 12, 30, 1022] [] [] [] [0] (cn (!(specIsFamily (Family.mk ((l1Copy x0).people) (((l1Copy x0).unions) ++ [(Union.mk x2 x3 x4 (-1))])))) (r0 1 [10, 11, 12] [10, 12, 30, 1022] (rt [(0, none), (1, none)] (C19 ((Family.mk ([] : List Person) ([] : List Union)), false)))) (r0 1 [10, 11] [10, 30, 1022] (rt [(0, some 1022), (1, some 30)] (C19 ((Family.mk ((l1Copy x0).people) (((l1Copy x0).unions) ++ [(Union.mk x2 x3 x4 (-1))])), true)))))))))
theorem ok_spec_JoinUnion (x0 : Family) (x1 : Law) (x2 : Int) (x3 : Int) (x4 : Int) (hx : x0.people.length ≤ 1048576) (hu : x0.unions.length ≤ 1048576) (hn : ∀ p ∈ x0.people, p.name.length ≤ 1048576) : FnT Try.prog 19 [.agg (cFamily false x0), .agg (cLaw false x1), .int .i64 x2, .int .i64 x3, .int .i64 x4] (C19 (specJoin x0 x1 x2 x3 x4)) := by
  have aux : ∀ R, specJoin x0 x1 x2 x3 x4 = R → slim (C19 R) (A19 x0 x1 x2 x3 x4) [] := by
    intro R hR
    refine rg trivial ?_
    refine rg ⟨⟨by trivial, by trivial, by trivial⟩, trivial⟩ ?_
    revert hR; refine cd (fun hc1 hR => ?_) fun hc1 hR => ?_
    ·
      refine rg trivial ?_
      exact congrArg C19 hR
    ·
      refine rg ⟨⟨by trivial, by trivial⟩, trivial, by ((try clear hR); have h9 := may_fam (by first | exact hc1 | (rw [← may_eq]; exact hc1)); (try simp only [l1Copy, copyFamily, List.length_append, List.length_singleton] at *); omega), trivial⟩ ?_
      refine rg ⟨⟨by trivial, by ((try clear hR); have h9 := may_fam (by first | exact hc1 | (rw [← may_eq]; exact hc1)); (try simp only [l1Copy, copyFamily, List.length_append, List.length_singleton] at *); omega), by trivial⟩, trivial⟩ ?_
      revert hR; refine cd (fun hc2 hR => ?_) fun hc2 hR => ?_
      ·
        refine rg trivial ?_
        exact congrArg C19 hR
      ·
        refine rg trivial ?_
        exact congrArg C19 hR
  exact Fn.go 37 Try.func19 (by kernel_rfl) (by kernel_rfl) (by simp [C19, Frs, FrsL, FrsB, rowOf, cInt, cBool, cStr, cSl, FrsL_app, cPerson, cUnion, cFamily, cLaw]) (A19 x0 x1 x2 x3 x4) (by kernel_rfl) (aux _ rfl)
def k19 (x0 : Family) (x1 : Law) (x2 : Int) (x3 : Int) (x4 : Int) : Cl := (hres (C19 (specJoin x0 x1 x2 x3 x4)), k3 (ok_spec_JoinUnion x0 x1 x2 x3 x4))
def C20 (R : Family × Bool) : LV × List (Nat × BC) := (.tup [.agg [.own 0, .own 1], .bool R.2], [(0, .arr 6 R.1.people.length (rowOf (cPerson true) R.1.people)), (1, .arr 4 R.1.unions.length (rowOf (cUnion true) R.1.unions))])
def implJoin (x0 : Family) (x1 : Law) (x2 : Int) (x3 : Int) (x4 : Int) : Family × Bool := bif (!(implMay x0 x1 x2 x3 x4)) then ((Family.mk ([] : List Person) ([] : List Union)), false) else (bif (!(implIsFamily (Family.mk ((copyFamily x0).people) (((copyFamily x0).unions) ++ [(Union.mk x2 x3 x4 (-1))])))) then ((Family.mk ([] : List Person) ([] : List Union)), false) else ((Family.mk ((copyFamily x0).people) (((copyFamily x0).unions) ++ [(Union.mk x2 x3 x4 (-1))])), true))
def A20 (x0 : Family) (x1 : Law) (x2 : Int) (x3 : Int) (x4 : Int) : Ann := r0 1 [2, 3, 4, 5, 6, 10, 11] [5, 6, 10] (.reg 1 [] [(5, k53 x0 x1 x2 x3 x4)] [2, 3, 4, 5, 10, 11, 19] [5, 10] [] [] [] [0] (cn (!(implMay x0 x1 x2 x3 x4)) (r0 1 [2, 3, 4, 5, 10, 11] [5, 10] (rt [(0, none), (1, none)] (C20 ((Family.mk ([] : List Person) ([] : List Union)), false)))) (.reg 2 [] [(1, k54 x0), (1006, bsC 29 (cUnion true) ([(Union.mk x2 x3 x4 (-1))] : List Union)), (1007, ap1 30 (cUnion true) 32 ((copyFamily x0).unions) (Union.mk x2 x3 x4 (-1)))] [10, 11, 12] [10, 12, 30, 1022] [] [] [] [0, 4, 8] (.reg 1 [] [(1, k44 (Family.mk ((copyFamily x0).people) (((copyFamily x0).unions) ++ [(Union.mk x2 x3 x4 (-1))])))] [10, 11, 12, 34] [10, 12, 30, 1022] [] [] [] [0] (cn (!(implIsFamily (Family.mk ((copyFamily x0).people) (((copyFamily x0).unions) ++ [(Union.mk x2 x3 x4 (-1))])))) (r0 1 [10, 11, 12] [10, 12, 30, 1022] (rt [(0, none), (1, none)] (C20 ((Family.mk ([] : List Person) ([] : List Union)), false)))) (r0 1 [10, 11] [10, 30, 1022] (rt [(0, some 1022), (1, some 30)] (C20 ((Family.mk ((copyFamily x0).people) (((copyFamily x0).unions) ++ [(Union.mk x2 x3 x4 (-1))])), true)))))))))
theorem ok_impl_JoinUnion (x0 : Family) (x1 : Law) (x2 : Int) (x3 : Int) (x4 : Int) (hx : x0.people.length ≤ 1048576) (hu : x0.unions.length ≤ 1048576) (hn : ∀ p ∈ x0.people, p.name.length ≤ 1048576) : FnT Try.prog 20 [.agg (cFamily false x0), .agg (cLaw false x1), .int .i64 x2, .int .i64 x3, .int .i64 x4] (C20 (implJoin x0 x1 x2 x3 x4)) := by
  have aux : ∀ R, implJoin x0 x1 x2 x3 x4 = R → slim (C20 R) (A20 x0 x1 x2 x3 x4) [] := by
    intro R hR
    refine rg trivial ?_
    refine rg ⟨⟨by trivial, by trivial, by trivial⟩, trivial⟩ ?_
    revert hR; refine cd (fun hc1 hR => ?_) fun hc1 hR => ?_
    ·
      refine rg trivial ?_
      exact congrArg C20 hR
    ·
      refine rg ⟨⟨by trivial, by trivial⟩, trivial, by ((try clear hR); have h9 := may_fam (by first | exact hc1 | (rw [← may_eq]; exact hc1)); (try simp only [l1Copy, copyFamily, List.length_append, List.length_singleton] at *); omega), trivial⟩ ?_
      refine rg ⟨⟨by trivial, by ((try clear hR); have h9 := may_fam (by first | exact hc1 | (rw [← may_eq]; exact hc1)); (try simp only [l1Copy, copyFamily, List.length_append, List.length_singleton] at *); omega), by trivial⟩, trivial⟩ ?_
      revert hR; refine cd (fun hc2 hR => ?_) fun hc2 hR => ?_
      ·
        refine rg trivial ?_
        exact congrArg C20 hR
      ·
        refine rg trivial ?_
        exact congrArg C20 hR
  exact Fn.go 37 Try.func20 (by kernel_rfl) (by kernel_rfl) (by simp [C20, Frs, FrsL, FrsB, rowOf, cInt, cBool, cStr, cSl, FrsL_app, cPerson, cUnion, cFamily, cLaw]) (A20 x0 x1 x2 x3 x4) (by kernel_rfl) (aux _ rfl)
def k20 (x0 : Family) (x1 : Law) (x2 : Int) (x3 : Int) (x4 : Int) : Cl := (hres (C20 (implJoin x0 x1 x2 x3 x4)), k3 (ok_impl_JoinUnion x0 x1 x2 x3 x4))
end Go.Proofs.Ytaooopgdcneohab
