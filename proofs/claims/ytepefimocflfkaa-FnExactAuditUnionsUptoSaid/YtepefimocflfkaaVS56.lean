import Derived.Test.YtepefimocflfkaaVS55
set_option maxHeartbeats 4000000
set_option linter.unusedSimpArgs false
set_option linter.unusedVariables false
namespace Go.Proofs.Ytepefimocflfkaa
open Go Go.Lite Go.Proofs
def C34 (R : (List (List Int))) : LV × List (Nat × BC) := (.own 0, [(0, .arr 1 R.length (rowOf (cSl true 1 (cInt .i64)) R))])
def specAudit (x0 : Family) (x1 : Law) : (List (List Int)) := bif ((!(specIsLaw x1)) || (!(specIsFamily x0))) then ([] : List (List Int)) else (loopN (fun i1 (v1 : (List (List Int))) nx1 => loopN (fun i2 (v2 : (List Union)) next => bif ((decide (((x0.unions.getD i2 default).from0) < ((x0.unions.getD i1 default).from0))) || ((decide (((x0.unions.getD i2 default).from0) = ((x0.unions.getD i1 default).from0))) && (decide (((i2 : Nat) : Int) < ((i1 : Nat) : Int))))) then (next (v2 ++ [(x0.unions.getD i2 default)])) else (next v2)) (fun (v2 : (List Union)) => nx1 (v1 ++ [specImp (Family.mk x0.people v2) x1 ((x0.unions.getD i1 default).man) ((x0.unions.getD i1 default).woman) ((x0.unions.getD i1 default).from0)])) x0.unions.length 0 ([] : List Union)) (fun (v1 : (List (List Int))) => v1) x0.unions.length 0 ([] : List (List Int)))
def D34b1 (x0 : Family) (x1 : Law) (i1 : Nat) (v1 : (List (List Int))) : Dl := ⟨[(23, .int .i64 ((i1 : Nat) : Int)), (5, .own 20005)], [(20005, .arr 1 v1.length (rowOf (cSl true 1 (cInt .i64)) v1))]⟩
def D34b2 (x0 : Family) (x1 : Law) (i1 : Nat) (v1 : (List (List Int))) (i2 : Nat) (v2 : (List Union)) : Dl := ⟨[(34, .int .i64 ((i2 : Nat) : Int))], [(30801, .arr 4 v2.length (rowOf (cUnion true) v2)), (8, .var [.ro false 6 x0.people.length (rowOf (cPerson false) x0.people), .own 30801])]⟩
def A34b2 (x0 : Family) (x1 : Law) (i1 : Nat) (v1 : (List (List Int))) (i2 : Nat) (v2 : (List Union)) : Ann := r0 1 [2, 3, 4, 5, 6, 7, 8, 21, 22, 23, 32, 33, 34, 35] [2, 3, 7, 8, 20005, 30801] (cn (decide (((i2 : Nat) : Int) < ((x0.unions.length : Nat) : Int))) (.reg 2 [] [] [2, 3, 4, 5, 6, 7, 8, 10, 21, 22, 23, 32, 33, 34, 55] [2, 3, 7, 8, 10, 20005, 30801] [!(decide (((x0.unions.getD i2 default).from0) < ((x0.unions.getD i1 default).from0))), (!(decide (((x0.unions.getD i2 default).from0) < ((x0.unions.getD i1 default).from0)))) && (decide (((x0.unions.getD i2 default).from0) = ((x0.unions.getD i1 default).from0))), decide (((x0.unions.getD i2 default).from0) < ((x0.unions.getD i1 default).from0))] [pf (0 ≤ (((i2 : Nat) : Int) : Int) ∧ (((i2 : Nat) : Int) : Int) < ((x0.unions.length : Nat) : Int)), gt (!(decide (((x0.unions.getD i2 default).from0) < ((x0.unions.getD i1 default).from0)))) (gt (decide (((x0.unions.getD i2 default).from0) = ((x0.unions.getD i1 default).from0))) (pf (((!(decide (((x0.unions.getD i2 default).from0) < ((x0.unions.getD i1 default).from0)))) && (decide (((x0.unions.getD i2 default).from0) = ((x0.unions.getD i1 default).from0)))) = true)))] [] [0, 1, 1, 1, 1, 1, 5, 5, 1, 4, 10] (cn ((decide (((x0.unions.getD i2 default).from0) < ((x0.unions.getD i1 default).from0))) || ((decide (((x0.unions.getD i2 default).from0) = ((x0.unions.getD i1 default).from0))) && (decide (((i2 : Nat) : Int) < ((i1 : Nat) : Int))))) (.reg 1 [] [(3, bsC 59 (cUnion true) ([(x0.unions.getD i2 default)] : List Union)), (4, ap1 60 (cUnion true) 32 v2 (x0.unions.getD i2 default))] [2, 3, 4, 5, 6, 7, 8, 21, 22, 23, 32, 33, 34] [2, 3, 7, 8, 60, 20005] [] [] [] [0, 4] (r1 1 [2, 3, 4, 5, 6, 7, 8, 21, 22, 23, 32, 33, 34] [2, 3, 7, 8, 60, 20005] [pf (inR .i64 (((i2 : Nat) : Int) + 1))] [0] (.next 0 [(30801, some 60)] (D34b2 x0 x1 i1 v1 (i2 + 1) (v2 ++ [(x0.unions.getD i2 default)]))))) (r1 1 [2, 3, 4, 5, 6, 7, 8, 21, 22, 23, 32, 33, 34] [2, 3, 7, 8, 20005, 30801] [pf (inR .i64 (((i2 : Nat) : Int) + 1))] [0] (.next 0 [(30801, some 30801)] (D34b2 x0 x1 i1 v1 (i2 + 1) v2))))) (.reg 1 [] [(9, k76 (Family.mk x0.people v2) x1 ((x0.unions.getD i1 default).man) ((x0.unions.getD i1 default).woman) ((x0.unions.getD i1 default).from0)), (10, bsC 73 (cSl true 1 (cInt .i64)) ([specImp (Family.mk x0.people v2) x1 ((x0.unions.getD i1 default).man) ((x0.unions.getD i1 default).woman) ((x0.unions.getD i1 default).from0)] : List (List Int))), (11, ap1 74 (cSl true 1 (cInt .i64)) 24 v1 (specImp (Family.mk x0.people v2) x1 ((x0.unions.getD i1 default).man) ((x0.unions.getD i1 default).woman) ((x0.unions.getD i1 default).from0)))] [2, 3, 4, 5, 21, 22, 23] [2, 3, 74] [] [] [] [0, 4, 8] (r1 1 [2, 3, 4, 5, 21, 22, 23] [2, 3, 74] [pf (inR .i64 (((i1 : Nat) : Int) + 1))] [0] (.next 1 [(20005, some 74)] (D34b1 x0 x1 (i1 + 1) (v1 ++ [specImp (Family.mk x0.people v2) x1 ((x0.unions.getD i1 default).man) ((x0.unions.getD i1 default).woman) ((x0.unions.getD i1 default).from0)]))))))
def A34b1 (x0 : Family) (x1 : Law) (i1 : Nat) (v1 : (List (List Int))) : Ann := r0 1 [2, 3, 4, 5, 21, 22, 23, 24] [2, 3, 20005] (cn (decide (((i1 : Nat) : Int) < ((x0.unions.length : Nat) : Int))) (r1 2 [2, 3, 4, 5, 6, 7, 8, 21, 22, 23] [2, 3, 7, 8, 20005] [pf (0 ≤ (((i1 : Nat) : Int) : Int) ∧ (((i1 : Nat) : Int) : Int) < ((x0.unions.length : Nat) : Int))] [0] (r0 1 [2, 3, 4, 5, 6, 7, 8, 21, 22, 23, 32, 33, 34] [2, 3, 7, 8, 20005] (lp (D34b2 x0 x1 i1 v1) [] [] [(30801, none)] (D34b2 x0 x1 i1 v1 0 ([] : List Union)) (A34b2 x0 x1 i1 v1)))) (r0 1 [4] [20005] (rt [(0, some 20005)] (C34 v1))))
def A34 (x0 : Family) (x1 : Law) : Ann := r0 1 [2, 3, 4] [2, 3] (.reg 1 [] [(1, k75 x1), (5, cg (!(!(specIsLaw x1))) (k15 x0))] [2, 3, 4, 18] [2, 3] [!(!(specIsLaw x1)), !(specIsLaw x1)] [] [] [0, 1, 4, 1, 6] (cn ((!(specIsLaw x1)) || (!(specIsFamily x0))) (r0 1 [2, 3, 4] [2, 3] (rt [(0, none)] (C34 ([] : List (List Int))))) (.reg 1 [] [(0, bsC 19 (cSl true 1 (cInt .i64)) ([] : List (List Int)))] [2, 3, 4, 5] [2, 3, 19] [] [] [] [0] (r0 1 [2, 3, 4, 5, 21, 22, 23] [2, 3, 19] (lp (D34b1 x0 x1) [] [19] [(20005, some 19)] (D34b1 x0 x1 0 ([] : List (List Int))) (A34b1 x0 x1))))))
theorem ok_spec_AuditUnions (x0 : Family) (x1 : Law) (hx : x0.people.length ≤ 1048576) (hu : x0.unions.length ≤ 1048576) (hn : ∀ p ∈ x0.people, p.name.length ≤ 1048576) : FnT Try.prog 34 [.agg (cFamily false x0), .agg (cLaw false x1)] (C34 (specAudit x0 x1)) := by
  have aux : ∀ R, specAudit x0 x1 = R → slim (C34 R) (A34 x0 x1) [] := by
    intro R hR
    refine rg trivial ?_
    refine rg ⟨trivial, fun hg0 => ⟨by with_reducible assumption, by with_reducible assumption, by with_reducible assumption⟩, trivial⟩ ?_
    revert hR; refine cd (fun hc1 hR => ?_) fun hc1 hR => ?_
    ·
      refine rg trivial ?_
      exact congrArg C34 hR
    ·
      refine rg ⟨trivial, trivial⟩ ?_
      refine rg trivial ?_
      revert hR; refine lN (fun i v => v.length ≤ i) (by (exact Nat.le_refl _)) rfl fun i1 v1 F1 hn1 hI1 hR hK1 => ?_
      refine rg trivial ?_
      refine ⟨fun hc2 => ?_, fun hc2 => ?_⟩
      · have hii1 : i1 < x0.unions.length := by have := of_decide_eq_true hc2; omega
        replace hR := loopN_step hR hii1
        refine rg ⟨by (intros; omega), trivial⟩ ?_
        refine rg trivial ?_
        revert hR; refine lN (fun i v => AuI x0 i v) (by (exact List.nil_sublist _)) rfl fun i2 v2 F2 hn2 hI2 hR hK2 => ?_
        refine rg trivial ?_
        refine ⟨fun hc3 => ?_, fun hc3 => ?_⟩
        · have hii2 : i2 < x0.unions.length := by have := of_decide_eq_true hc3; omega
          replace hR := loopN_step hR hii2
          refine rg ⟨by (intros; omega), by (intro h1 h2; rw [h1, h2]; rfl), trivial⟩ ?_
          revert hR; refine cd (fun hc4 hR => ?_) fun hc4 hR => ?_
          ·
            refine rg ⟨trivial, by (have h8 : v2.length ≤ x0.unions.length := (by have h7 := List.Sublist.length_le hI2; rw [List.length_take] at h7; omega); (try simp only [inR]); omega), trivial⟩ ?_
            refine rg ⟨by (have h8 : v2.length ≤ x0.unions.length := (by have h7 := List.Sublist.length_le hI2; rw [List.length_take] at h7; omega); (try simp only [inR]); omega), trivial⟩ ?_
            exact hK2 (v2 ++ [(x0.unions.getD i2 default)]) hii2 (by (with_reducible exact hI2.snoc hii2)) hR
          ·
            refine rg ⟨by (have h8 : v2.length ≤ x0.unions.length := (by have h7 := List.Sublist.length_le hI2; rw [List.length_take] at h7; omega); (try simp only [inR]); omega), trivial⟩ ?_
            exact hK2 v2 hii2 (by (with_reducible exact hI2.skip hii2)) hR
        · obtain rfl : i2 = x0.unions.length := by have := of_decide_eq_false hc3; omega
          replace hR := loopN_end hR (Nat.lt_irrefl _)
          refine rg ⟨⟨by with_reducible assumption, by (have h8 : v2.length ≤ x0.unions.length := (by have h7 := List.Sublist.length_le hI2; rw [List.length_take] at h7; omega); (try simp only [inR]); omega), by with_reducible assumption⟩, trivial, by omega, trivial⟩ ?_
          refine rg ⟨by (have h8 : v2.length ≤ x0.unions.length := (by have h7 := List.Sublist.length_le hI2; rw [List.length_take] at h7; omega); (try simp only [inR]); omega), trivial⟩ ?_
          exact hK1 (v1 ++ [specImp (Family.mk x0.people v2) x1 ((x0.unions.getD i1 default).man) ((x0.unions.getD i1 default).woman) ((x0.unions.getD i1 default).from0)]) hii1 (by (simp only [List.length_append, List.length_singleton]; omega)) hR
      · obtain rfl : i1 = x0.unions.length := by have := of_decide_eq_false hc2; omega
        replace hR := loopN_end hR (Nat.lt_irrefl _)
        refine rg trivial ?_
        exact congrArg C34 hR
  exact Fn.go 77 Try.func34 (by kernel_rfl) (by kernel_rfl) (by simp [C34, Frs, FrsL, FrsB, rowOf, cInt, cBool, cStr, cSl, FrsL_app, cPerson, cUnion, cFamily, cLaw]) (A34 x0 x1) (by kernel_rfl) (aux _ rfl)
def k34 (x0 : Family) (x1 : Law) : Cl := (hres (C34 (specAudit x0 x1)), k3 (ok_spec_AuditUnions x0 x1))
end Go.Proofs.Ytepefimocflfkaa
