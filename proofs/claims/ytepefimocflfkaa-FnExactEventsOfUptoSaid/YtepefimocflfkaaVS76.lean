import Derived.Test.YtepefimocflfkaaVS95
set_option maxHeartbeats 4000000
set_option linter.unusedSimpArgs false
set_option linter.unusedVariables false
namespace Go.Proofs.Ytepefimocflfkaa
open Go Go.Lite Go.Proofs
def C118 (R : (List Int)) : LV × List (Nat × BC) := (.own 0, [(0, .arr 1 R.length (rowOf (cInt .i64) R))])
def identL (x0 : Int) : (List Int) := loopN (fun i1 (v1 : (List Int)) next => next (v1 ++ [((i1 : Nat) : Int)])) (fun (v1 : (List Int)) => v1) x0.toNat 0 ([] : List Int)
def D118b1 (x0 : Int) (i1 : Nat) (v1 : (List Int)) : Dl := ⟨[(6, .int .i64 ((i1 : Nat) : Int)), (3, .own 20003)], [(20003, .arr 1 v1.length (rowOf (cInt .i64) v1))]⟩
def A118b1 (x0 : Int) (i1 : Nat) (v1 : (List Int)) : Ann := r0 1 [2, 3, 5, 6, 7] [20003] (cn (decide (((i1 : Nat) : Int) < x0)) (r0 1 [2, 3, 4, 5, 6] [20003] (.reg 1 [] [(2, bsC 11 (cInt .i64) ([((i1 : Nat) : Int)] : List Int)), (3, ap1 12 (cInt .i64) 8 v1 ((i1 : Nat) : Int))] [2, 3, 5, 6] [12] [] [] [] [0, 4] (r1 1 [2, 3, 5, 6] [12] [pf (inR .i64 (((i1 : Nat) : Int) + 1))] [0] (.next 0 [(20003, some 12)] (D118b1 x0 (i1 + 1) (v1 ++ [((i1 : Nat) : Int)])))))) (r0 1 [2] [20003] (rt [(0, some 20003)] (C118 v1))))
def A118 (x0 : Int) : Ann := r0 2 [0, 2, 3] [] (r0 1 [2, 3, 5, 6] [] (lp (D118b1 x0) [] [] [(20003, none)] (D118b1 x0 0 ([] : List Int)) (A118b1 x0)))
theorem ok_impl_identity (x0 : Int) (h : 0 ≤ x0 ∧ x0 ≤ 1000) : FnT Try.prog 118 [.int .i64 x0] (C118 (identL x0)) := by
  have aux : ∀ R, identL x0 = R → slim (C118 R) (A118 x0) [] := by
    intro R hR
    refine rg trivial ?_
    refine rg trivial ?_
    revert hR; refine lN (fun i v => v.length = i) (by (exact rfl)) rfl fun i1 v1 F1 hn1 hI1 hR hK1 => ?_
    refine rg trivial ?_
    refine ⟨fun hc1 => ?_, fun hc1 => ?_⟩
    · have hii1 : i1 < x0.toNat := by have := of_decide_eq_true hc1; omega
      replace hR := loopN_step hR hii1
      refine rg trivial ?_
      refine rg ⟨trivial, by omega, trivial⟩ ?_
      refine rg ⟨by ( intros; simp only [inR]; omega), trivial⟩ ?_
      exact hK1 (v1 ++ [((i1 : Nat) : Int)]) hii1 (by (simp only [List.length_append, List.length_singleton]; omega)) hR
    · obtain rfl : i1 = x0.toNat := by have := of_decide_eq_false hc1; omega
      replace hR := loopN_end hR (Nat.lt_irrefl _)
      refine rg trivial ?_
      exact congrArg C118 hR
  exact Fn.go 15 Try.func118 (by kernel_rfl) (by kernel_rfl) (by simp [C118, Frs, FrsL, FrsB, rowOf, cInt, cBool, cStr, cSl, FrsL_app, cPerson, cUnion, cFamily, cEvent]) (A118 x0) (by kernel_rfl) (aux _ rfl)
def k118 (x0 : Int) : Cl := (hres (C118 (identL x0)), k1 (ok_impl_identity x0))
def C120 (R : Family) : LV × List (Nat × BC) := (.agg [.own 0, .own 1], [(0, .arr 6 R.people.length (rowOf (cPerson true) R.people)), (1, .arr 4 R.unions.length (rowOf (cUnion true) R.unions))])
def ordered (x0 : Family) (x1 : List Int) : Family := loopN (fun i1 (v1 : (List Int)) next => next (v1.set ((x1.getD i1 default).toNat) ((i1 : Nat) : Int))) (fun (v1 : (List Int)) => loopN (fun i2 (v2 : (List Person)) next => jn (fun K1 => bif (decide (0 ≤ ((x0.people.getD ((x1.getD i2 default).toNat) default).father))) then (K1 (v1.getD (((x0.people.getD ((x1.getD i2 default).toNat) default).father).toNat) default)) else (K1 ((x0.people.getD ((x1.getD i2 default).toNat) default).father))) (fun (j1 : Int) => bif (decide (0 ≤ ((x0.people.getD ((x1.getD i2 default).toNat) default).mother))) then (next (v2 ++ [(Person.mk ((x0.people.getD ((x1.getD i2 default).toNat) default).name) ((x0.people.getD ((x1.getD i2 default).toNat) default).sex) j1 (v1.getD (((x0.people.getD ((x1.getD i2 default).toNat) default).mother).toNat) default) ((x0.people.getD ((x1.getD i2 default).toNat) default).born) ((x0.people.getD ((x1.getD i2 default).toNat) default).died))])) else (next (v2 ++ [(Person.mk ((x0.people.getD ((x1.getD i2 default).toNat) default).name) ((x0.people.getD ((x1.getD i2 default).toNat) default).sex) j1 ((x0.people.getD ((x1.getD i2 default).toNat) default).mother) ((x0.people.getD ((x1.getD i2 default).toNat) default).born) ((x0.people.getD ((x1.getD i2 default).toNat) default).died))])))) (fun (v2 : (List Person)) => loopN (fun i3 (v3 : (List Union)) next => next (v3 ++ [(Union.mk (v1.getD (((x0.unions.getD i3 default).man).toNat) default) (v1.getD (((x0.unions.getD i3 default).woman).toNat) default) ((x0.unions.getD i3 default).from0) ((x0.unions.getD i3 default).to))])) (fun (v3 : (List Union)) => (Family.mk v2 v3)) x0.unions.length 0 ([] : List Union)) x1.length 0 ([] : List Person)) x1.length 0 (List.replicate x1.length (default : Int))
def D120b1 (x0 : Family) (x1 : List Int) (i1 : Nat) (v1 : (List Int)) : Dl := ⟨[(19, .int .i64 ((i1 : Nat) : Int)), (5, .own 20005)], [(20005, .arr 1 x1.length (rowOf (cInt .i64) v1))]⟩
def D120b2 (x0 : Family) (x1 : List Int) (i1 : Nat) (v1 : (List Int)) (i2 : Nat) (v2 : (List Person)) : Dl := ⟨[(31, .int .i64 ((i2 : Nat) : Int))], [(30800, .arr 6 v2.length (rowOf (cPerson true) v2)), (8, .var [.own 30800, .nilS])]⟩
def D120j1 (x0 : Family) (x1 : List Int) (i1 : Nat) (v1 : (List Int)) (i2 : Nat) (v2 : (List Person)) (j1 : Int) : Dl := ⟨[], [(11, .var [.str ((x0.people.getD ((x1.getD i2 default).toNat) default).name), .int .i64 ((x0.people.getD ((x1.getD i2 default).toNat) default).sex), .int .i64 j1, .int .i64 ((x0.people.getD ((x1.getD i2 default).toNat) default).mother), .int .i64 ((x0.people.getD ((x1.getD i2 default).toNat) default).born), .int .i64 ((x0.people.getD ((x1.getD i2 default).toNat) default).died)])]⟩
def A120j1 (x0 : Family) (x1 : List Int) (i1 : Nat) (v1 : (List Int)) (i2 : Nat) (v2 : (List Person)) (j1 : Int) : Ann := r0 1 [2, 4, 5, 8, 11, 29, 30, 31, 51] [2, 4, 8, 11, 20005, 30800] (cn (decide (0 ≤ ((x0.people.getD ((x1.getD i2 default).toNat) default).mother))) (r1 1 [2, 4, 5, 8, 11, 29, 30, 31] [2, 4, 8, 11, 20005, 30800] [pf (0 ≤ ((x0.people.getD ((x1.getD i2 default).toNat) default).mother : Int) ∧ ((x0.people.getD ((x1.getD i2 default).toNat) default).mother : Int) < ((x1.length : Nat) : Int))] [0] (.reg 1 [] [(3, bsC 61 (cPerson true) ([(Person.mk ((x0.people.getD ((x1.getD i2 default).toNat) default).name) ((x0.people.getD ((x1.getD i2 default).toNat) default).sex) j1 (v1.getD (((x0.people.getD ((x1.getD i2 default).toNat) default).mother).toNat) default) ((x0.people.getD ((x1.getD i2 default).toNat) default).born) ((x0.people.getD ((x1.getD i2 default).toNat) default).died))] : List Person)), (4, ap1 62 (cPerson true) 56 v2 (Person.mk ((x0.people.getD ((x1.getD i2 default).toNat) default).name) ((x0.people.getD ((x1.getD i2 default).toNat) default).sex) j1 (v1.getD (((x0.people.getD ((x1.getD i2 default).toNat) default).mother).toNat) default) ((x0.people.getD ((x1.getD i2 default).toNat) default).born) ((x0.people.getD ((x1.getD i2 default).toNat) default).died)))] [2, 4, 5, 8, 29, 30, 31] [2, 4, 8, 62, 20005] [] [] [] [0, 4] (r1 1 [2, 4, 5, 8, 29, 30, 31] [2, 4, 8, 62, 20005] [pf (inR .i64 (((i2 : Nat) : Int) + 1))] [0] (.next 0 [(30800, some 62)] (D120b2 x0 x1 i1 v1 (i2 + 1) (v2 ++ [(Person.mk ((x0.people.getD ((x1.getD i2 default).toNat) default).name) ((x0.people.getD ((x1.getD i2 default).toNat) default).sex) j1 (v1.getD (((x0.people.getD ((x1.getD i2 default).toNat) default).mother).toNat) default) ((x0.people.getD ((x1.getD i2 default).toNat) default).born) ((x0.people.getD ((x1.getD i2 default).toNat) default).died))])))))) (.reg 1 [] [(3, bsC 61 (cPerson true) ([(Person.mk ((x0.people.getD ((x1.getD i2 default).toNat) default).name) ((x0.people.getD ((x1.getD i2 default).toNat) default).sex) j1 ((x0.people.getD ((x1.getD i2 default).toNat) default).mother) ((x0.people.getD ((x1.getD i2 default).toNat) default).born) ((x0.people.getD ((x1.getD i2 default).toNat) default).died))] : List Person)), (4, ap1 62 (cPerson true) 56 v2 (Person.mk ((x0.people.getD ((x1.getD i2 default).toNat) default).name) ((x0.people.getD ((x1.getD i2 default).toNat) default).sex) j1 ((x0.people.getD ((x1.getD i2 default).toNat) default).mother) ((x0.people.getD ((x1.getD i2 default).toNat) default).born) ((x0.people.getD ((x1.getD i2 default).toNat) default).died)))] [2, 4, 5, 8, 29, 30, 31] [2, 4, 8, 62, 20005] [] [] [] [0, 4] (r1 1 [2, 4, 5, 8, 29, 30, 31] [2, 4, 8, 62, 20005] [pf (inR .i64 (((i2 : Nat) : Int) + 1))] [0] (.next 0 [(30800, some 62)] (D120b2 x0 x1 i1 v1 (i2 + 1) (v2 ++ [(Person.mk ((x0.people.getD ((x1.getD i2 default).toNat) default).name) ((x0.people.getD ((x1.getD i2 default).toNat) default).sex) j1 ((x0.people.getD ((x1.getD i2 default).toNat) default).mother) ((x0.people.getD ((x1.getD i2 default).toNat) default).born) ((x0.people.getD ((x1.getD i2 default).toNat) default).died))]))))))
def D120b3 (x0 : Family) (x1 : List Int) (i1 : Nat) (v1 : (List Int)) (i2 : Nat) (v2 : (List Person)) (i3 : Nat) (v3 : (List Union)) : Dl := ⟨[(68, .int .i64 ((i3 : Nat) : Int))], [(30801, .arr 4 v3.length (rowOf (cUnion true) v3)), (8, .var [.own 30800, .own 30801])]⟩
def A120b3 (x0 : Family) (x1 : List Int) (i1 : Nat) (v1 : (List Int)) (i2 : Nat) (v2 : (List Person)) (i3 : Nat) (v3 : (List Union)) : Ann := r0 1 [4, 5, 8, 66, 67, 68, 69] [4, 8, 20005, 30800, 30801] (cn (decide (((i3 : Nat) : Int) < ((x0.unions.length : Nat) : Int))) (r1 2 [4, 5, 8, 13, 66, 67, 68] [4, 8, 13, 20005, 30800, 30801] [pf (0 ≤ (((i3 : Nat) : Int) : Int) ∧ (((i3 : Nat) : Int) : Int) < ((x0.unions.length : Nat) : Int)), pf (0 ≤ ((x0.unions.getD i3 default).man : Int) ∧ ((x0.unions.getD i3 default).man : Int) < ((x1.length : Nat) : Int)), pf (0 ≤ ((x0.unions.getD i3 default).woman : Int) ∧ ((x0.unions.getD i3 default).woman : Int) < ((x1.length : Nat) : Int))] [0, 4, 8] (.reg 1 [] [(3, bsC 87 (cUnion true) ([(Union.mk (v1.getD (((x0.unions.getD i3 default).man).toNat) default) (v1.getD (((x0.unions.getD i3 default).woman).toNat) default) ((x0.unions.getD i3 default).from0) ((x0.unions.getD i3 default).to))] : List Union)), (4, ap1 88 (cUnion true) 32 v3 (Union.mk (v1.getD (((x0.unions.getD i3 default).man).toNat) default) (v1.getD (((x0.unions.getD i3 default).woman).toNat) default) ((x0.unions.getD i3 default).from0) ((x0.unions.getD i3 default).to)))] [4, 5, 8, 66, 67, 68] [4, 8, 88, 20005, 30800] [] [] [] [0, 4] (r1 1 [4, 5, 8, 66, 67, 68] [4, 8, 88, 20005, 30800] [pf (inR .i64 (((i3 : Nat) : Int) + 1))] [0] (.next 0 [(30801, some 88)] (D120b3 x0 x1 i1 v1 i2 v2 (i3 + 1) (v3 ++ [(Union.mk (v1.getD (((x0.unions.getD i3 default).man).toNat) default) (v1.getD (((x0.unions.getD i3 default).woman).toNat) default) ((x0.unions.getD i3 default).from0) ((x0.unions.getD i3 default).to))])))))) (r0 1 [4] [4, 30800, 30801] (rt [(0, some 30800), (1, some 30801)] (C120 (Family.mk v2 v3)))))
def A120b2 (x0 : Family) (x1 : List Int) (i1 : Nat) (v1 : (List Int)) (i2 : Nat) (v2 : (List Person)) : Ann := r0 1 [2, 4, 5, 8, 29, 30, 31, 32] [2, 4, 8, 20005, 30800] (cn (decide (((i2 : Nat) : Int) < ((x1.length : Nat) : Int))) (r1 2 [2, 4, 5, 8, 11, 29, 30, 31] [2, 4, 8, 11, 20005, 30800] [pf (0 ≤ (((i2 : Nat) : Int) : Int) ∧ (((i2 : Nat) : Int) : Int) < ((x1.length : Nat) : Int)), pf (0 ≤ ((x1.getD i2 default) : Int) ∧ ((x1.getD i2 default) : Int) < ((x0.people.length : Nat) : Int))] [0, 4] (.join 0 Int (D120j1 x0 x1 i1 v1 i2 v2) [2, 4, 5, 8, 11, 29, 30, 31] [2, 4, 20005, 8, 30800, 11] (r0 1 [2, 4, 5, 8, 11, 29, 30, 31, 42] [2, 4, 8, 11, 20005, 30800] (cn (decide (0 ≤ ((x0.people.getD ((x1.getD i2 default).toNat) default).father))) (r1 1 [2, 4, 5, 8, 11, 29, 30, 31] [2, 4, 8, 11, 20005, 30800] [pf (0 ≤ ((x0.people.getD ((x1.getD i2 default).toNat) default).father : Int) ∧ ((x0.people.getD ((x1.getD i2 default).toNat) default).father : Int) < ((x1.length : Nat) : Int))] [0] (.next 0 [] (D120j1 x0 x1 i1 v1 i2 v2 (v1.getD (((x0.people.getD ((x1.getD i2 default).toNat) default).father).toNat) default)))) (.next 0 [] (D120j1 x0 x1 i1 v1 i2 v2 ((x0.people.getD ((x1.getD i2 default).toNat) default).father))))) (A120j1 x0 x1 i1 v1 i2 v2))) (r0 1 [4, 5, 8, 66, 67, 68] [4, 8, 20005, 30800] (lp (D120b3 x0 x1 i1 v1 i2 v2) [] [] [(30801, none)] (D120b3 x0 x1 i1 v1 i2 v2 0 ([] : List Union)) (A120b3 x0 x1 i1 v1 i2 v2))))
def A120b1 (x0 : Family) (x1 : List Int) (i1 : Nat) (v1 : (List Int)) : Ann := r0 1 [1, 2, 4, 5, 17, 18, 19, 20] [2, 4, 20005] (cn (decide (((i1 : Nat) : Int) < ((x1.length : Nat) : Int))) (r1 1 [1, 2, 4, 5, 6, 7, 17, 18, 19] [2, 4, 20005] [pf (0 ≤ (((i1 : Nat) : Int) : Int) ∧ (((i1 : Nat) : Int) : Int) < ((x1.length : Nat) : Int))] [0] (.reg 1 [] [(4, stC 20005 (cInt .i64) x1.length v1 ((x1.getD i1 default).toNat) ((i1 : Nat) : Int))] [1, 2, 4, 5, 17, 18, 19] [2, 4, 20005] [] [pf (0 ≤ ((x1.getD i1 default) : Int) ∧ ((x1.getD i1 default) : Int) < ((x1.length : Nat) : Int))] [] [0, 4] (r1 1 [1, 2, 4, 5, 17, 18, 19] [2, 4, 20005] [pf (inR .i64 (((i1 : Nat) : Int) + 1))] [0] (.next 0 [(20005, some 20005)] (D120b1 x0 x1 (i1 + 1) (v1.set ((x1.getD i1 default).toNat) ((i1 : Nat) : Int))))))) (r0 1 [1, 2, 4, 5, 8] [2, 4, 8, 20005] (r0 1 [2, 4, 5, 8, 29, 30, 31] [2, 4, 8, 20005] (lp (D120b2 x0 x1 i1 v1) [] [] [(30800, none)] (D120b2 x0 x1 i1 v1 0 ([] : List Person)) (A120b2 x0 x1 i1 v1)))))
def A120 (x0 : Family) (x1 : List Int) : Ann := .reg 2 [] [(1002, msC 16 (cInt .i64) 8 ((x1.length : Nat) : Int) ((x1.length : Nat) : Int) x1.length (default : Int) (rfl))] [1, 2, 4, 5] [2, 4, 16] [] [] [] [0] (r0 1 [1, 2, 4, 5, 17, 18, 19] [2, 4, 16] (lp (D120b1 x0 x1) [] [16] [(20005, some 16)] (D120b1 x0 x1 0 (List.replicate x1.length (default : Int))) (A120b1 x0 x1)))
theorem ok_impl_ordered (x0 : Family) (x1 : List Int) (hx : x0.people.length ≤ 1048576) (hu : x0.unions.length ≤ 1048576) (hn : ∀ p ∈ x0.people, p.name.length ≤ 1048576) (hf : specIsFamily x0 = true) (ho : x1.length = x0.people.length) (hr : ∀ i : Nat, i < x1.length → 0 ≤ x1.getD i default ∧ x1.getD i default < x0.people.length) : FnT Try.prog 120 [.agg (cFamily false x0), .ro false 1 x1.length (rowOf (cInt .i64) x1)] (C120 (ordered x0 x1)) := by
  have aux : ∀ R, ordered x0 x1 = R → slim (C120 R) (A120 x0 x1) [] := by
    intro R hR
    refine rg ⟨by (intros; omega), trivial⟩ ?_
    refine rg trivial ?_
    revert hR; refine lN (fun i v => v.length = x1.length) (by (exact List.length_replicate)) rfl fun i1 v1 F1 hn1 hI1 hR hK1 => ?_
    refine rg trivial ?_
    refine ⟨fun hc1 => ?_, fun hc1 => ?_⟩
    · have hii1 : i1 < x1.length := by have := of_decide_eq_true hc1; omega
      replace hR := loopN_step hR hii1
      refine rg ⟨by (intros; omega), trivial⟩ ?_
      refine rg ⟨by (have h7 := hr i1 (by omega); omega), by (have h7 := hr i1 (by omega); omega), trivial⟩ ?_
      refine rg ⟨by ( intros; simp only [inR]; omega), trivial⟩ ?_
      exact hK1 (v1.set ((x1.getD i1 default).toNat) ((i1 : Nat) : Int)) hii1 (by (simp only [List.length_set]; omega)) hR
    · obtain rfl : i1 = x1.length := by have := of_decide_eq_false hc1; omega
      replace hR := loopN_end hR (Nat.lt_irrefl _)
      refine rg trivial ?_
      refine rg trivial ?_
      revert hR; refine lN (fun i v => v.length ≤ i) (by (exact Nat.le_refl _)) rfl fun i2 v2 F2 hn2 hI2 hR hK2 => ?_
      refine rg trivial ?_
      refine ⟨fun hc2 => ?_, fun hc2 => ?_⟩
      · have hii2 : i2 < x1.length := by have := of_decide_eq_true hc2; omega
        replace hR := loopN_step hR hii2
        refine rg ⟨by (intros; omega), by (have h8 := fam_n hf; have h7 := hr i2 (by omega); have h6 := fam_p hf (k := (x1.getD i2 default).toNat) (by omega); have h5 := h6.fa; have h4 := h6.mo; omega), trivial⟩ ?_
        revert hR; refine jN (fun v => True) (fun F101 hR hJ101 => ?_) (fun j1 hR hJ1 => ?_)
        ·
          refine rg trivial ?_
          revert hR; refine cd (fun hc3 hR => ?_) fun hc3 hR => ?_
          ·
            refine rg ⟨by (have h8 := fam_n hf; have h7 := hr i2 (by omega); have h6 := fam_p hf (k := (x1.getD i2 default).toNat) (by omega); have h5 := h6.fa; have h4 := h6.mo; have h3 := of_decide_eq_true hc3; omega), trivial⟩ ?_
            exact hJ101 (v1.getD (((x0.people.getD ((x1.getD i2 default).toNat) default).father).toNat) default) hR (by exact True.intro)
          ·
            exact hJ101 ((x0.people.getD ((x1.getD i2 default).toNat) default).father) hR (by exact True.intro)
        ·
          refine rg trivial ?_
          revert hR; refine cd (fun hc4 hR => ?_) fun hc4 hR => ?_
          ·
            refine rg ⟨by (have h8 := fam_n hf; have h7 := hr i2 (by omega); have h6 := fam_p hf (k := (x1.getD i2 default).toNat) (by omega); have h5 := h6.fa; have h4 := h6.mo; have h3 := of_decide_eq_true hc4; omega), trivial⟩ ?_
            refine rg ⟨trivial, by omega, trivial⟩ ?_
            refine rg ⟨by ( intros; simp only [inR]; omega), trivial⟩ ?_
            exact hK2 (v2 ++ [(Person.mk ((x0.people.getD ((x1.getD i2 default).toNat) default).name) ((x0.people.getD ((x1.getD i2 default).toNat) default).sex) j1 (v1.getD (((x0.people.getD ((x1.getD i2 default).toNat) default).mother).toNat) default) ((x0.people.getD ((x1.getD i2 default).toNat) default).born) ((x0.people.getD ((x1.getD i2 default).toNat) default).died))]) hii2 (by (simp only [List.length_append, List.length_singleton]; omega)) hR
          ·
            refine rg ⟨trivial, by omega, trivial⟩ ?_
            refine rg ⟨by ( intros; simp only [inR]; omega), trivial⟩ ?_
            exact hK2 (v2 ++ [(Person.mk ((x0.people.getD ((x1.getD i2 default).toNat) default).name) ((x0.people.getD ((x1.getD i2 default).toNat) default).sex) j1 ((x0.people.getD ((x1.getD i2 default).toNat) default).mother) ((x0.people.getD ((x1.getD i2 default).toNat) default).born) ((x0.people.getD ((x1.getD i2 default).toNat) default).died))]) hii2 (by (simp only [List.length_append, List.length_singleton]; omega)) hR
      · obtain rfl : i2 = x1.length := by have := of_decide_eq_false hc2; omega
        replace hR := loopN_end hR (Nat.lt_irrefl _)
        refine rg trivial ?_
        revert hR; refine lN (fun i v => v.length ≤ i) (by (exact Nat.le_refl _)) rfl fun i3 v3 F3 hn3 hI3 hR hK3 => ?_
        refine rg trivial ?_
        refine ⟨fun hc5 => ?_, fun hc5 => ?_⟩
        · have hii3 : i3 < x0.unions.length := by have := of_decide_eq_true hc5; omega
          replace hR := loopN_step hR hii3
          refine rg ⟨by (intros; omega), by (have h8 := fam_n hf; have h7 := fam_u hf hii3; have h6 := h7.man; have h5 := h7.woman; omega), by (have h8 := fam_n hf; have h7 := fam_u hf hii3; have h6 := h7.man; have h5 := h7.woman; omega), trivial⟩ ?_
          refine rg ⟨trivial, by omega, trivial⟩ ?_
          refine rg ⟨by ( intros; simp only [inR]; omega), trivial⟩ ?_
          exact hK3 (v3 ++ [(Union.mk (v1.getD (((x0.unions.getD i3 default).man).toNat) default) (v1.getD (((x0.unions.getD i3 default).woman).toNat) default) ((x0.unions.getD i3 default).from0) ((x0.unions.getD i3 default).to))]) hii3 (by (simp only [List.length_append, List.length_singleton]; omega)) hR
        · obtain rfl : i3 = x0.unions.length := by have := of_decide_eq_false hc5; omega
          replace hR := loopN_end hR (Nat.lt_irrefl _)
          refine rg trivial ?_
          exact congrArg C120 hR
  exact Fn.go 92 Try.func120 (by kernel_rfl) (by kernel_rfl) (by simp [C120, Frs, FrsL, FrsB, rowOf, cInt, cBool, cStr, cSl, FrsL_app, cPerson, cUnion, cFamily, cEvent]) (A120 x0 x1) (by kernel_rfl) (aux _ rfl)
def k120 (x0 : Family) (x1 : List Int) : Cl := (hres (C120 (ordered x0 x1)), k6 (ok_impl_ordered x0 x1))
end Go.Proofs.Ytepefimocflfkaa
