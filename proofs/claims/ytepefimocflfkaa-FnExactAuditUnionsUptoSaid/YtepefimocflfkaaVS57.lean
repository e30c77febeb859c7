import Derived.Test.YtepefimocflfkaaVS56
set_option maxHeartbeats 4000000
set_option linter.unusedSimpArgs false
set_option linter.unusedVariables false
namespace Go.Proofs.Ytepefimocflfkaa
open Go Go.Lite Go.Proofs
def C36 (R : (List (List Int))) : LV × List (Nat × BC) := (.own 0, [(0, .nest true 1 R.length (nrOf (cInt .i64) R))])
def implAudit (x0 : Family) (x1 : Law) : (List (List Int)) := bif ((!(implIsFamily x0)) || (!(implIsLaw x1))) then ([] : List (List Int)) else (loopN (fun i1 (v1 : (List (List Int))) nx1 => loopN (fun i2 (v2 : (List Union)) next => bif ((decide (((x0.unions.getD i2 default).from0) < ((x0.unions.getD i1 default).from0))) || ((decide (((x0.unions.getD i2 default).from0) = ((x0.unions.getD i1 default).from0))) && (decide (((i2 : Nat) : Int) < ((i1 : Nat) : Int))))) then (next (v2 ++ [(x0.unions.getD i2 default)])) else (next v2)) (fun (v2 : (List Union)) => nx1 (v1 ++ [impediments (Family.mk x0.people v2) x1 ((x0.unions.getD i1 default).man) ((x0.unions.getD i1 default).woman) ((x0.unions.getD i1 default).from0)])) x0.unions.length 0 ([] : List Union)) (fun (v1 : (List (List Int))) => v1) x0.unions.length 0 ([] : List (List Int)))
def D36b1 (x0 : Family) (x1 : Law) (i1 : Nat) (v1 : (List (List Int))) : Dl := ⟨[(22, .int .i64 ((i1 : Nat) : Int)), (5, .own 20005)], [(20005, .nest true 1 v1.length (nrOf (cInt .i64) v1))]⟩
def D36b2 (x0 : Family) (x1 : Law) (i1 : Nat) (v1 : (List (List Int))) (i2 : Nat) (v2 : (List Union)) : Dl := ⟨[(33, .int .i64 ((i2 : Nat) : Int))], [(30801, .arr 4 v2.length (rowOf (cUnion true) v2)), (8, .var [.ro false 6 x0.people.length (rowOf (cPerson false) x0.people), .own 30801])]⟩
def A36b2 (x0 : Family) (x1 : Law) (i1 : Nat) (v1 : (List (List Int))) (i2 : Nat) (v2 : (List Union)) : Ann := r0 1 [2, 3, 4, 5, 6, 7, 8, 20, 21, 22, 31, 32, 33, 34] [2, 3, 7, 8, 20005, 30801] (cn (decide (((i2 : Nat) : Int) < ((x0.unions.length : Nat) : Int))) (.reg 2 [] [] [2, 3, 4, 5, 6, 7, 8, 10, 20, 21, 22, 31, 32, 33, 54] [2, 3, 7, 8, 10, 20005, 30801] [!(decide (((x0.unions.getD i2 default).from0) < ((x0.unions.getD i1 default).from0))), (!(decide (((x0.unions.getD i2 default).from0) < ((x0.unions.getD i1 default).from0)))) && (decide (((x0.unions.getD i2 default).from0) = ((x0.unions.getD i1 default).from0))), decide (((x0.unions.getD i2 default).from0) < ((x0.unions.getD i1 default).from0))] [pf (0 ≤ (((i2 : Nat) : Int) : Int) ∧ (((i2 : Nat) : Int) : Int) < ((x0.unions.length : Nat) : Int)), gt (!(decide (((x0.unions.getD i2 default).from0) < ((x0.unions.getD i1 default).from0)))) (gt (decide (((x0.unions.getD i2 default).from0) = ((x0.unions.getD i1 default).from0))) (pf (((!(decide (((x0.unions.getD i2 default).from0) < ((x0.unions.getD i1 default).from0)))) && (decide (((x0.unions.getD i2 default).from0) = ((x0.unions.getD i1 default).from0)))) = true)))] [] [0, 1, 1, 1, 1, 1, 5, 5, 1, 4, 10] (cn ((decide (((x0.unions.getD i2 default).from0) < ((x0.unions.getD i1 default).from0))) || ((decide (((x0.unions.getD i2 default).from0) = ((x0.unions.getD i1 default).from0))) && (decide (((i2 : Nat) : Int) < ((i1 : Nat) : Int))))) (.reg 1 [] [(3, bsC 58 (cUnion true) ([(x0.unions.getD i2 default)] : List Union)), (4, ap1 59 (cUnion true) 32 v2 (x0.unions.getD i2 default))] [2, 3, 4, 5, 6, 7, 8, 20, 21, 22, 31, 32, 33] [2, 3, 7, 8, 59, 20005] [] [] [] [0, 4] (r1 1 [2, 3, 4, 5, 6, 7, 8, 20, 21, 22, 31, 32, 33] [2, 3, 7, 8, 59, 20005] [pf (inR .i64 (((i2 : Nat) : Int) + 1))] [0] (.next 0 [(30801, some 59)] (D36b2 x0 x1 i1 v1 (i2 + 1) (v2 ++ [(x0.unions.getD i2 default)]))))) (r1 1 [2, 3, 4, 5, 6, 7, 8, 20, 21, 22, 31, 32, 33] [2, 3, 7, 8, 20005, 30801] [pf (inR .i64 (((i2 : Nat) : Int) + 1))] [0] (.next 0 [(30801, some 30801)] (D36b2 x0 x1 i1 v1 (i2 + 1) v2))))) (.reg 1 [] [(9, k56 (Family.mk x0.people v2) x1 ((x0.unions.getD i1 default).man) ((x0.unions.getD i1 default).woman) ((x0.unions.getD i1 default).from0)), (10, nB1 (cInt .i64) (impediments (Family.mk x0.people v2) x1 ((x0.unions.getD i1 default).man) ((x0.unions.getD i1 default).woman) ((x0.unions.getD i1 default).from0))), (11, nA1 (cInt .i64) v1 (impediments (Family.mk x0.people v2) x1 ((x0.unions.getD i1 default).man) ((x0.unions.getD i1 default).woman) ((x0.unions.getD i1 default).from0)) 24)] [2, 3, 4, 5, 20, 21, 22] [2, 3, 73] [] [] [] [0, 4, 8] (r1 1 [2, 3, 4, 5, 20, 21, 22] [2, 3, 73] [pf (inR .i64 (((i1 : Nat) : Int) + 1))] [0] (.next 1 [(20005, some 73)] (D36b1 x0 x1 (i1 + 1) (v1 ++ [impediments (Family.mk x0.people v2) x1 ((x0.unions.getD i1 default).man) ((x0.unions.getD i1 default).woman) ((x0.unions.getD i1 default).from0)]))))))
def A36b1 (x0 : Family) (x1 : Law) (i1 : Nat) (v1 : (List (List Int))) : Ann := r0 1 [2, 3, 4, 5, 20, 21, 22, 23] [2, 3, 20005] (cn (decide (((i1 : Nat) : Int) < ((x0.unions.length : Nat) : Int))) (r1 2 [2, 3, 4, 5, 6, 7, 8, 20, 21, 22] [2, 3, 7, 8, 20005] [pf (0 ≤ (((i1 : Nat) : Int) : Int) ∧ (((i1 : Nat) : Int) : Int) < ((x0.unions.length : Nat) : Int))] [0] (r0 1 [2, 3, 4, 5, 6, 7, 8, 20, 21, 22, 31, 32, 33] [2, 3, 7, 8, 20005] (lp (D36b2 x0 x1 i1 v1) [] [] [(30801, none)] (D36b2 x0 x1 i1 v1 0 ([] : List Union)) (A36b2 x0 x1 i1 v1)))) (r0 1 [4] [20005] (rt [(0, some 20005)] (C36 v1))))
def A36 (x0 : Family) (x1 : Law) : Ann := r0 1 [2, 3, 4] [2, 3] (.reg 1 [] [(1, k50 x0), (5, cg (!(!(implIsFamily x0))) (k55 x1))] [2, 3, 4, 18] [2, 3] [!(!(implIsFamily x0)), !(implIsFamily x0)] [] [] [0, 1, 4, 1, 6] (cn ((!(implIsFamily x0)) || (!(implIsLaw x1))) (r0 1 [2, 3, 4] [2, 3] (rt [(0, none)] (C36 ([] : List (List Int))))) (r0 1 [2, 3, 4, 5] [2, 3] (r0 1 [2, 3, 4, 5, 20, 21, 22] [2, 3] (lp (D36b1 x0 x1) [] [] [(20005, none)] (D36b1 x0 x1 0 ([] : List (List Int))) (A36b1 x0 x1))))))
theorem ok_impl_AuditUnions (x0 : Family) (x1 : Law) (hx : x0.people.length ≤ 1048576) (hu : x0.unions.length ≤ 1048576) (hn : ∀ p ∈ x0.people, p.name.length ≤ 1048576) : FnT Try.prog 36 [.agg (cFamily false x0), .agg (cLaw false x1)] (C36 (implAudit x0 x1)) := by
  have aux : ∀ R, implAudit x0 x1 = R → slim (C36 R) (A36 x0 x1) [] := by
    intro R hR
    refine rg trivial ?_
    refine rg ⟨⟨by with_reducible assumption, by with_reducible assumption, by with_reducible assumption⟩, fun hg0 => trivial, trivial⟩ ?_
    revert hR; refine cd (fun hc1 hR => ?_) fun hc1 hR => ?_
    ·
      refine rg trivial ?_
      exact congrArg C36 hR
    ·
      refine rg trivial ?_
      refine rg trivial ?_
      revert hR; refine lN (fun i v => v.length ≤ i) (by (exact Nat.le_refl _)) rfl fun i1 v1 F1 hn1 hI1 hR hK1 => ?_
      refine rg trivial ?_
      refine ⟨fun hc2 => ?_, fun hc2 => ?_⟩
      · have hii1 : i1 < x0.unions.length := by have := of_decide_eq_true hc2; omega
        replace hR := loopN_step hR hii1
        refine rg ⟨by (intros; omega), trivial⟩ ?_
        refine rg trivial ?_
        revert hR; refine lN (fun i v => AuI x0 i v) (by (exact List.nil_sublist _)) rfl fun i2 v2 F2 hn2 hI2 hR hK2 => ?_
        refine rg trivial ?_
        refine ⟨fun hc3 => ?_, fun hc3 => ?_⟩
        · have hii2 : i2 < x0.unions.length := by have := of_decide_eq_true hc3; omega
          replace hR := loopN_step hR hii2
          refine rg ⟨by (intros; omega), by (intro h1 h2; rw [h1, h2]; rfl), trivial⟩ ?_
          revert hR; refine cd (fun hc4 hR => ?_) fun hc4 hR => ?_
          ·
            refine rg ⟨trivial, by (have h8 : v2.length ≤ x0.unions.length := (by have h7 := List.Sublist.length_le hI2; rw [List.length_take] at h7; omega); (try simp only [inR]); omega), trivial⟩ ?_
            refine rg ⟨by (have h9 := au_pre hc1; have h8 := fam_u h9.1 hii1; have h7 := h8.man; have h6 := h8.woman; have h5 := h8.from0; (try simp only [inR]); omega), trivial⟩ ?_
            exact hK2 (v2 ++ [(x0.unions.getD i2 default)]) hii2 (by (with_reducible exact hI2.snoc hii2)) hR
          ·
            refine rg ⟨by (have h9 := au_pre hc1; have h8 := fam_u h9.1 hii1; have h7 := h8.man; have h6 := h8.woman; have h5 := h8.from0; (try simp only [inR]); omega), trivial⟩ ?_
            exact hK2 v2 hii2 (by (with_reducible exact hI2.skip hii2)) hR
        · obtain rfl : i2 = x0.unions.length := by have := of_decide_eq_false hc3; omega
          replace hR := loopN_end hR (Nat.lt_irrefl _)
          refine rg ⟨⟨by with_reducible assumption, by (have h9 := au_pre hc1; with_reducible exact hI2.fam h9.1), by with_reducible assumption, by (have h9 := au_pre hc1; have h8 := fam_u h9.1 hii1; have h7 := h8.man; have h6 := h8.woman; have h5 := h8.from0; (try simp only [inR]); omega), by (have h9 := au_pre hc1; have h8 := fam_u h9.1 hii1; have h7 := h8.man; have h6 := h8.woman; have h5 := h8.from0; (try simp only [inR]); omega), by (have h9 := au_pre hc1; have h8 := fam_u h9.1 hii1; have h7 := h8.man; have h6 := h8.woman; have h5 := h8.from0; (try simp only [inR]); omega)⟩, trivial, by omega, trivial⟩ ?_
          refine rg ⟨by (have h9 := au_pre hc1; have h8 := fam_u h9.1 hii1; have h7 := h8.man; have h6 := h8.woman; have h5 := h8.from0; (try simp only [inR]); omega), trivial⟩ ?_
          exact hK1 (v1 ++ [impediments (Family.mk x0.people v2) x1 ((x0.unions.getD i1 default).man) ((x0.unions.getD i1 default).woman) ((x0.unions.getD i1 default).from0)]) hii1 (by (simp only [List.length_append, List.length_singleton]; omega)) hR
      · obtain rfl : i1 = x0.unions.length := by have := of_decide_eq_false hc2; omega
        replace hR := loopN_end hR (Nat.lt_irrefl _)
        refine rg trivial ?_
        exact congrArg C36 hR
  exact Fn.go 76 Try.func36 (by kernel_rfl) (by kernel_rfl) (by simp [C36, FrsN, nrOf, Frs, FrsL, FrsB, rowOf, cInt, cBool, cStr, cSl, FrsL_app, cPerson, cUnion, cFamily, cLaw]) (A36 x0 x1) (by kernel_rfl) (aux _ rfl)
def k36 (x0 : Family) (x1 : Law) : Cl := (hres (C36 (implAudit x0 x1)), k3 (ok_impl_AuditUnions x0 x1))
end Go.Proofs.Ytepefimocflfkaa
