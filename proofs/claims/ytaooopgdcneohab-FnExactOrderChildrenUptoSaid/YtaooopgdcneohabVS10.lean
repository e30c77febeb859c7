import Derived.Test.YtaooopgdcneohabVS9
set_option maxHeartbeats 4000000
set_option linter.unusedSimpArgs false
set_option linter.unusedVariables false
namespace Go.Proofs.Ytaooopgdcneohab
open Go Go.Lite Go.Proofs
def C131 (R : Bool) : LV × List (Nat × BC) := (.bool R, [])
def implParent (x0 : Family) (x1 : Int) (x2 : Int) : Bool := (decide (((x0.people.getD x2.toNat default).father) = x1)) || (decide (((x0.people.getD x2.toNat default).mother) = x1))
def A131 (x0 : Family) (x1 : Int) (x2 : Int) : Ann := .reg 2 [] [] [6] [] [!(decide (((x0.people.getD x2.toNat default).father) = x1)), decide (((x0.people.getD x2.toNat default).father) = x1)] [pf (0 ≤ (x2 : Int) ∧ (x2 : Int) < ((x0.people.length : Nat) : Int)), gt (!(decide (((x0.people.getD x2.toNat default).father) = x1))) (pf (0 ≤ (x2 : Int) ∧ (x2 : Int) < ((x0.people.length : Nat) : Int)))] [] [0, 1, 1, 1, 4, 1, 1, 1, 1, 6] (rt [] (C131 ((decide (((x0.people.getD x2.toNat default).father) = x1)) || (decide (((x0.people.getD x2.toNat default).mother) = x1)))))
theorem ok_impl_isParent (x0 : Family) (x1 : Int) (x2 : Int) (h2 : 0 ≤ x2 ∧ x2 < x0.people.length) : FnT Try.prog 131 [.agg (cFamily false x0), .int .i64 x1, .int .i64 x2] (C131 (implParent x0 x1 x2)) := by
  have aux : ∀ R, implParent x0 x1 x2 = R → slim (C131 R) (A131 x0 x1 x2) [] := by
    intro R hR
    refine rg ⟨by trivial, by (intros; omega), trivial⟩ ?_
    exact congrArg C131 hR
  exact Fn.go 25 Try.func131 (by kernel_rfl) (by kernel_rfl) (by simp [C131, Frs, FrsL]) (A131 x0 x1 x2) (by kernel_rfl) (aux _ rfl)
def k131 (x0 : Family) (x1 : Int) (x2 : Int) : Cl := (hres (C131 (implParent x0 x1 x2)), k1 (ok_impl_isParent x0 x1 x2))
def C130 (R : Bool) : LV × List (Nat × BC) := (.bool R, [])
def kidP (x0 : Int) (x1 : Family) (x2 : Int) : Bool := implParent x1 x2 x0
def A130 (x0 : Int) (x1 : Family) (x2 : Int) : Ann := .reg 2 [] [(1003, k131 x1 x2 x0)] [4] [] [] [] [] [0] (rt [] (C130 (implParent x1 x2 x0)))
theorem ok_impl_childrenOf_1 (x0 : Int) (x1 : Family) (x2 : Int) (h0 : 0 ≤ x0 ∧ x0 < x1.people.length) : FnT Try.prog 130 [.int .i64 x0, .ep [.ro false 6 x1.people.length (rowOf (cPerson false) x1.people), .ro false 4 x1.unions.length (rowOf (cUnion false) x1.unions)] 0, .ep [.int .i64 x2] 0] (C130 (kidP x0 x1 x2)) := by
  have aux : ∀ R, kidP x0 x1 x2 = R → slim (C130 R) (A130 x0 x1 x2) [] := by
    intro R hR
    refine rg ⟨by trivial, trivial⟩ ?_
    exact congrArg C130 hR
  exact Fn.go 9 Try.func130 (by kernel_rfl) (by kernel_rfl) (by simp [C130, Frs, FrsL]) (A130 x0 x1 x2) (by kernel_rfl) (aux _ rfl)
def k130 (x0 : Int) (x1 : Family) (x2 : Int) : Cl := (hres (C130 (kidP x0 x1 x2)), k1 (ok_impl_childrenOf_1 x0 x1 x2))
def C129 (R : (List Int)) : LV × List (Nat × BC) := (.own 0, [(0, .arr 1 R.length (rowOf (cInt .i64) R))])
def implChosen (x0 : Family) (x1 : Family × Int) : (List Int) := loopN (fun i1 (v1 : (List Int)) next => bif (kidP ((i1 : Nat) : Int) x1.1 x1.2) then (next (v1 ++ [((i1 : Nat) : Int)])) else (next v1)) (fun (v1 : (List Int)) => bif (decide (2 ≤ v1.length)) then (sliceE (SrtE.mk x0 v1) ()) else (sliceZ (SrtZ.mk x0 v1) ())) x0.people.length 0 ([] : List Int)
def D129b1 (x0 : Family) (x1 : Family × Int) (i1 : Nat) (v1 : (List Int)) : Dl := ⟨[(10, .int .i64 ((i1 : Nat) : Int))], [(30500, .arr 1 v1.length (rowOf (cInt .i64) v1)), (5, .var [.own 30500])]⟩
def A129b1 (x0 : Family) (x1 : Family × Int) (i1 : Nat) (v1 : (List Int)) : Ann := r0 1 [1, 2, 4, 5, 9, 10, 11] [2, 5, 30500] (cn (decide (((i1 : Nat) : Int) < ((x0.people.length : Nat) : Int))) (.reg 2 [] [(1002, k130 ((i1 : Nat) : Int) x1.1 x1.2)] [1, 2, 4, 5, 6, 9, 10, 15] [2, 5, 30500] [] [] [] [0] (cn (kidP ((i1 : Nat) : Int) x1.1 x1.2) (.reg 1 [] [(2, bsC 18 (cInt .i64) ([((i1 : Nat) : Int)] : List Int)), (3, ap1 19 (cInt .i64) 8 v1 ((i1 : Nat) : Int))] [1, 2, 4, 5, 9, 10] [2, 5, 19] [] [] [] [0, 4] (r1 1 [1, 2, 4, 5, 9, 10] [2, 5, 19] [pf (inR .i64 (((i1 : Nat) : Int) + 1))] [0] (.next 0 [(30500, some 19)] (D129b1 x0 x1 (i1 + 1) (v1 ++ [((i1 : Nat) : Int)]))))) (r1 1 [1, 2, 4, 5, 9, 10] [2, 5, 30500] [pf (inR .i64 (((i1 : Nat) : Int) + 1))] [0] (.next 0 [(30500, some 30500)] (D129b1 x0 x1 (i1 + 1) v1))))) (.split (decide (2 ≤ v1.length)) (.reg 2 [] [(3, k149E 24 [30500, 2, 5] (SrtE.mk x0 v1) ())] [4] [30500] [] [] [] [0] (rt [(0, some 30500)] (C129 (sliceE (SrtE.mk x0 v1) ())))) (.reg 2 [] [(3, k149Z 24 [30500, 2, 5] (SrtZ.mk x0 v1) ())] [4] [30500] [] [] [] [0] (rt [(0, some 30500)] (C129 (sliceZ (SrtZ.mk x0 v1) ()))))))
def A129 (x0 : Family) (x1 : Family × Int) : Ann := r0 2 [1, 2, 4, 5] [2, 5] (r0 1 [1, 2, 4, 5, 9, 10] [2, 5] (lp (D129b1 x0 x1) [] [] [(30500, none)] (D129b1 x0 x1 0 ([] : List Int)) (A129b1 x0 x1)))
theorem ok_impl_chosen (x0 : Family) (x1 : Family × Int) (hf : x0.people.length ≤ 40) (he : x1.1 = x0) : FnT Try.prog 129 [.agg (cFamily false x0), .clo 130 [.ep [.ro false 6 x1.1.people.length (rowOf (cPerson false) x1.1.people), .ro false 4 x1.1.unions.length (rowOf (cUnion false) x1.1.unions)] 0, .ep [.int .i64 x1.2] 0]] (C129 (implChosen x0 x1)) := by
  have aux : ∀ R, implChosen x0 x1 = R → slim (C129 R) (A129 x0 x1) [] := by
    intro R hR
    refine rg trivial ?_
    refine rg trivial ?_
    revert hR; refine lN (fun i v => OkL x0 v ∧ v.length ≤ i) (by (exact ⟨fun c hc => absurd hc List.not_mem_nil, Nat.le_refl _⟩)) rfl fun i1 v1 F1 hn1 hI1 hR hK1 => ?_
    refine rg trivial ?_
    refine ⟨fun hc1 => ?_, fun hc1 => ?_⟩
    · have hii1 : i1 < x0.people.length := by have := of_decide_eq_true hc1; omega
      replace hR := loopN_step hR hii1
      refine rg ⟨by (rw [he]; omega), trivial⟩ ?_
      revert hR; refine cd (fun hc2 hR => ?_) fun hc2 hR => ?_
      ·
        refine rg ⟨trivial, by omega, trivial⟩ ?_
        refine rg ⟨by ( intros; simp only [inR]; omega), trivial⟩ ?_
        exact hK1 (v1 ++ [((i1 : Nat) : Int)]) hii1 (by (exact ⟨fun c hc => (by rcases List.mem_append.1 hc with hc | hc; exact hI1.1 c hc; have := List.mem_singleton.1 hc; omega), by rw [List.length_append]; simp; omega⟩)) hR
      ·
        refine rg ⟨by ( intros; simp only [inR]; omega), trivial⟩ ?_
        exact hK1 v1 hii1 (by (exact ⟨hI1.1, by omega⟩)) hR
    · obtain rfl : i1 = x0.people.length := by have := of_decide_eq_false hc1; omega
      replace hR := loopN_end hR (Nat.lt_irrefl _)
      revert hR; refine cd (fun hs3 hR => ?_) fun hs3 hR => ?_
      ·
        refine rg ⟨⟨by ( intros; simp only [inR]; omega), by (exact hI1.1), by (simp only [decide_eq_true_eq, decide_eq_false_iff_not] at *; omega)⟩, trivial⟩ ?_
        exact congrArg C129 hR
      ·
        refine rg ⟨by (simp only [decide_eq_true_eq, decide_eq_false_iff_not] at *; omega), trivial⟩ ?_
        exact congrArg C129 hR
  exact Fn.go 26 Try.func129 (by kernel_rfl) (by kernel_rfl) (by simp [C129, Frs, FrsL, FrsB, rowOf, cInt, cBool, cStr, cSl, FrsL_app, cPerson, cUnion, cFamily]) (A129 x0 x1) (by kernel_rfl) (aux _ rfl)
def k129 (x0 : Family) (x1 : Family × Int) : Cl := (hres (C129 (implChosen x0 x1)), k2 (ok_impl_chosen x0 x1))
def C106 (R : (List Int)) : LV × List (Nat × BC) := (.own 0, [(0, .arr 1 R.length (rowOf (cInt .i64) R))])
def implKids (x0 : Family) (x1 : Int) : (List Int) := implChosen x0 (x0, x1)
def A106 (x0 : Family) (x1 : Int) : Ann := .reg 2 [] [(1002, k129 x0 (x0, x1))] [4] [1007] [] [] [] [0] (rt [(0, some 1007)] (C106 (implChosen x0 (x0, x1))))
theorem ok_impl_childrenOf (x0 : Family) (x1 : Int) (hf : x0.people.length ≤ 40) : FnT Try.prog 106 [.agg (cFamily false x0), .int .i64 x1] (C106 (implKids x0 x1)) := by
  have aux : ∀ R, implKids x0 x1 = R → slim (C106 R) (A106 x0 x1) [] := by
    intro R hR
    refine rg ⟨⟨by trivial, by trivial⟩, trivial⟩ ?_
    exact congrArg C106 hR
  exact Fn.go 8 Try.func106 (by kernel_rfl) (by kernel_rfl) (by simp [C106, Frs, FrsL, FrsB, rowOf, cInt, cBool, cStr, cSl, FrsL_app, cPerson, cUnion, cFamily]) (A106 x0 x1) (by kernel_rfl) (aux _ rfl)
def k106 (x0 : Family) (x1 : Int) : Cl := (hres (C106 (implKids x0 x1)), k1 (ok_impl_childrenOf x0 x1))
end Go.Proofs.Ytaooopgdcneohab
