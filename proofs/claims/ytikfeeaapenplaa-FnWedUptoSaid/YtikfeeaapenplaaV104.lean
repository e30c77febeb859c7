import Derived.Test.YtikfeeaapenplaaM103
set_option maxHeartbeats 4000000
set_option linter.unusedSimpArgs false
set_option linter.unusedVariables false
namespace Go.Proofs.Ytikfeeaapenplaa
open Go Go.Lite Go.Proofs
def C55 (R : Bool) : LV × List (Nat × BC) := (.bool R, [])
def specMay (x0 : Family) (x1 : Law) (x2 : Int) (x3 : Int) (x4 : Int) : Bool := (((specIsLaw x1) && (l1Has x0 x2)) && (l1Has x0 x3)) && (decide ((((specImp x0 x1 x2 x3 x4).length : Nat) : Int) = 0))
def A55 (x0 : Family) (x1 : Law) (x2 : Int) (x3 : Int) (x4 : Int) : Ann := .reg 2 [] [(1001, k53 x1), (1005, cg (specIsLaw x1) (k54 x0 x2)), (1010, cg ((specIsLaw x1) && (l1Has x0 x2)) (k54 x0 x3)), (1018, cg (((specIsLaw x1) && (l1Has x0 x2)) && (l1Has x0 x3)) (k85 x0 x1 x2 x3 x4))] [10] [] [specIsLaw x1, (specIsLaw x1) && (l1Has x0 x2), ((specIsLaw x1) && (l1Has x0 x2)) && (l1Has x0 x3)] [] [] [0, 1, 1, 4, 1, 5, 5, 8, 5, 9, 9, 9, 9, 9, 12, 9, 9, 9] (rt [] (C55 ((((specIsLaw x1) && (l1Has x0 x2)) && (l1Has x0 x3)) && (decide ((((specImp x0 x1 x2 x3 x4).length : Nat) : Int) = 0)))))
theorem ok_spec_MayMarry (x0 : Family) (x1 : Law) (x2 : Int) (x3 : Int) (x4 : Int) (hx : x0.people.length ≤ 1048576) (hu : x0.unions.length ≤ 1048576) (hn : ∀ p ∈ x0.people, p.name.length ≤ 1048576) : FnT Try.prog 55 [.agg (cFamily false x0), .agg (cLaw false x1), .int .i64 x2, .int .i64 x3, .int .i64 x4] (C55 (specMay x0 x1 x2 x3 x4)) := by
  have aux : ∀ R, specMay x0 x1 x2 x3 x4 = R → slim (C55 R) (A55 x0 x1 x2 x3 x4) [] := by
    intro R hR
    refine rg ⟨trivial, fun hg0 => ⟨by trivial, by trivial, by trivial⟩, fun hg0 => ⟨by trivial, by trivial, by trivial⟩, fun hg0 => ⟨by trivial, by trivial, by trivial⟩, trivial⟩ ?_
    exact congrArg C55 hR
  exact Fn.go 33 Try.func55 (by kernel_rfl) (by kernel_rfl) (by simp [C55, Frs, FrsL]) (A55 x0 x1 x2 x3 x4) (by kernel_rfl) (aux _ rfl)
def k55 (x0 : Family) (x1 : Law) (x2 : Int) (x3 : Int) (x4 : Int) : Cl := (hres (C55 (specMay x0 x1 x2 x3 x4)), k3 (ok_spec_MayMarry x0 x1 x2 x3 x4))
def C30 (R : Bool) : LV × List (Nat × BC) := (.bool R, [])
def implMay (x0 : Family) (x1 : Law) (x2 : Int) (x3 : Int) (x4 : Int) : Bool := ((implHas x0 [x2, x3]) && (implIsLaw x1)) && (decide ((((impediments x0 x1 x2 x3 x4).length : Nat) : Int) = 0))
def A30 (x0 : Family) (x1 : Law) (x2 : Int) (x3 : Int) (x4 : Int) : Ann := .reg 2 [] [(1003, bsC 14 (cInt .i64) ([x2, x3] : List Int)), (1004, k43 x0 [x2, x3]), (1007, cg (implHas x0 [x2, x3]) (k42 x1)), (1015, cg ((implHas x0 [x2, x3]) && (implIsLaw x1)) (k44 x0 x1 x2 x3 x4))] [10] [] [implHas x0 [x2, x3], (implHas x0 [x2, x3]) && (implIsLaw x1)] [] [] [0, 4, 1, 8, 1, 5, 5, 5, 5, 5, 12, 5, 5, 5] (rt [] (C30 (((implHas x0 [x2, x3]) && (implIsLaw x1)) && (decide ((((impediments x0 x1 x2 x3 x4).length : Nat) : Int) = 0)))))
theorem ok_impl_MayMarry (x0 : Family) (x1 : Law) (x2 : Int) (x3 : Int) (x4 : Int) (hx : x0.people.length ≤ 1048576) (hu : x0.unions.length ≤ 1048576) (hn : ∀ p ∈ x0.people, p.name.length ≤ 1048576) : FnT Try.prog 30 [.agg (cFamily false x0), .agg (cLaw false x1), .int .i64 x2, .int .i64 x3, .int .i64 x4] (C30 (implMay x0 x1 x2 x3 x4)) := by
  have aux : ∀ R, implMay x0 x1 x2 x3 x4 = R → slim (C30 R) (A30 x0 x1 x2 x3 x4) [] := by
    intro R hR
    refine rg ⟨trivial, ⟨by trivial, by trivial, by trivial, by ((try clear hR); intros; (try simp only [decide_eq_true_eq, decide_eq_false_iff_not, Bool.or_eq_true, Bool.and_eq_true, or_f_iff, not_f_iff, not_t_iff, Bool.not_eq_true', inR] at *); (repeat' apply And.intro) <;> (simp_all [inR]; done))⟩, fun hg0 => trivial, fun hg0 => ⟨by trivial, by (have h9 := imp_pre3 (by assumption); first | exact h9.1 | exact h9.2.1 | exact h9.2.2.1 | exact h9.2.2.2 | omega), by trivial, by (have h9 := imp_pre3 (by assumption); first | exact h9.1 | exact h9.2.1 | exact h9.2.2.1 | exact h9.2.2.2 | omega), by (have h9 := imp_pre3 (by assumption); first | exact h9.1 | exact h9.2.1 | exact h9.2.2.1 | exact h9.2.2.2 | omega), by (have h9 := imp_pre3 (by assumption); first | exact h9.1 | exact h9.2.1 | exact h9.2.2.1 | exact h9.2.2.2 | omega)⟩, trivial⟩ ?_
    exact congrArg C30 hR
  exact Fn.go 30 Try.func30 (by kernel_rfl) (by kernel_rfl) (by simp [C30, Frs, FrsL]) (A30 x0 x1 x2 x3 x4) (by kernel_rfl) (aux _ rfl)
def k30 (x0 : Family) (x1 : Law) (x2 : Int) (x3 : Int) (x4 : Int) : Cl := (hres (C30 (implMay x0 x1 x2 x3 x4)), k3 (ok_impl_MayMarry x0 x1 x2 x3 x4))
def C27 (R : (List Int)) : LV × List (Nat × BC) := (.own 0, [(0, .arr 1 R.length (rowOf (cInt .i64) R))])
def specPartners (x0 : Family) (x1 : Law) (x2 : Int) (x3 : Int) : (List Int) := bif ((!(specIsLaw x1)) || (!(l1Has x0 x2))) then ([] : List Int) else (loopN (fun i1 (v1 : (List Int)) next => bif (((decide (((x0.people.getD x2.toNat default).sex) = 1)) && (specMay x0 x1 x2 ((i1 : Nat) : Int) x3)) || ((decide (((x0.people.getD x2.toNat default).sex) = 2)) && (specMay x0 x1 ((i1 : Nat) : Int) x2 x3))) then (next (v1 ++ [((i1 : Nat) : Int)])) else (next v1)) (fun (v1 : (List Int)) => v1) x0.people.length 0 ([] : List Int))
def D27b1 (x0 : Family) (x1 : Law) (x2 : Int) (x3 : Int) (i1 : Nat) (v1 : (List Int)) : Dl := ⟨[(24, .int .i64 ((i1 : Nat) : Int)), (9, .own 20009)], [(20009, .arr 1 v1.length (rowOf (cInt .i64) v1))]⟩
def A27b1 (x0 : Family) (x1 : Law) (x2 : Int) (x3 : Int) (i1 : Nat) (v1 : (List Int)) : Ann := r0 1 [2, 3, 4, 5, 8, 9, 23, 24, 25] [4, 5, 20009] (cn (decide (((i1 : Nat) : Int) < ((x0.people.length : Nat) : Int))) (.reg 2 [] [(1013, cg (decide (((x0.people.getD x2.toNat default).sex) = 1)) (k55 x0 x1 x2 ((i1 : Nat) : Int) x3)), (1029, cg ((!((decide (((x0.people.getD x2.toNat default).sex) = 1)) && (specMay x0 x1 x2 ((i1 : Nat) : Int) x3))) && (decide (((x0.people.getD x2.toNat default).sex) = 2))) (k55 x0 x1 ((i1 : Nat) : Int) x2 x3))] [2, 3, 4, 5, 8, 9, 10, 23, 24, 58] [4, 5, 20009] [decide (((x0.people.getD x2.toNat default).sex) = 1), !((decide (((x0.people.getD x2.toNat default).sex) = 1)) && (specMay x0 x1 x2 ((i1 : Nat) : Int) x3)), (!((decide (((x0.people.getD x2.toNat default).sex) = 1)) && (specMay x0 x1 x2 ((i1 : Nat) : Int) x3))) && (decide (((x0.people.getD x2.toNat default).sex) = 2)), (decide (((x0.people.getD x2.toNat default).sex) = 1)) && (specMay x0 x1 x2 ((i1 : Nat) : Int) x3)] [pf (0 ≤ (x2 : Int) ∧ (x2 : Int) < ((x0.people.length : Nat) : Int)), gt (!((decide (((x0.people.getD x2.toNat default).sex) = 1)) && (specMay x0 x1 x2 ((i1 : Nat) : Int) x3))) (pf (0 ≤ (x2 : Int) ∧ (x2 : Int) < ((x0.people.length : Nat) : Int))), gt (!((decide (((x0.people.getD x2.toNat default).sex) = 1)) && (specMay x0 x1 x2 ((i1 : Nat) : Int) x3))) (gt (decide (((x0.people.getD x2.toNat default).sex) = 2)) (pf (((!((decide (((x0.people.getD x2.toNat default).sex) = 1)) && (specMay x0 x1 x2 ((i1 : Nat) : Int) x3))) && (decide (((x0.people.getD x2.toNat default).sex) = 2))) = true)))] [] [0, 1, 1, 1, 1, 1, 12, 1, 5, 5, 5, 4, 5, 5, 5, 5, 9, 9, 9, 9, 9, 16, 5, 8, 14] (cn (((decide (((x0.people.getD x2.toNat default).sex) = 1)) && (specMay x0 x1 x2 ((i1 : Nat) : Int) x3)) || ((decide (((x0.people.getD x2.toNat default).sex) = 2)) && (specMay x0 x1 ((i1 : Nat) : Int) x2 x3))) (.reg 1 [] [(2, bsC 61 (cInt .i64) ([((i1 : Nat) : Int)] : List Int)), (3, ap1 62 (cInt .i64) 8 v1 ((i1 : Nat) : Int))] [2, 3, 4, 5, 8, 9, 23, 24] [4, 5, 62] [] [] [] [0, 4] (r1 1 [2, 3, 4, 5, 8, 9, 23, 24] [4, 5, 62] [pf (inR .i64 (((i1 : Nat) : Int) + 1))] [0] (.next 0 [(20009, some 62)] (D27b1 x0 x1 x2 x3 (i1 + 1) (v1 ++ [((i1 : Nat) : Int)]))))) (r1 1 [2, 3, 4, 5, 8, 9, 23, 24] [4, 5, 20009] [pf (inR .i64 (((i1 : Nat) : Int) + 1))] [0] (.next 0 [(20009, some 20009)] (D27b1 x0 x1 x2 x3 (i1 + 1) v1))))) (r0 1 [8] [20009] (rt [(0, some 20009)] (C27 v1))))
def A27 (x0 : Family) (x1 : Law) (x2 : Int) (x3 : Int) : Ann := r0 1 [2, 3, 4, 5, 8] [4, 5] (.reg 1 [] [(1, k53 x1), (6, cg (!(!(specIsLaw x1))) (k54 x0 x2))] [2, 3, 4, 5, 8, 19] [4, 5] [!(!(specIsLaw x1)), !(specIsLaw x1)] [] [] [0, 1, 1, 4, 1, 6] (cn ((!(specIsLaw x1)) || (!(l1Has x0 x2))) (r0 1 [2, 3, 4, 5, 8] [4, 5] (rt [(0, none)] (C27 ([] : List Int)))) (.reg 1 [] [(0, bsC 20 (cInt .i64) ([] : List Int))] [2, 3, 4, 5, 8, 9] [4, 5, 20] [] [] [] [0] (r0 1 [2, 3, 4, 5, 8, 9, 23, 24] [4, 5, 20] (lp (D27b1 x0 x1 x2 x3) [] [20] [(20009, some 20)] (D27b1 x0 x1 x2 x3 0 ([] : List Int)) (A27b1 x0 x1 x2 x3))))))
theorem ok_spec_PartnersAllowed (x0 : Family) (x1 : Law) (x2 : Int) (x3 : Int) (hx : x0.people.length ≤ 1048576) (hu : x0.unions.length ≤ 1048576) (hn : ∀ p ∈ x0.people, p.name.length ≤ 1048576) : FnT Try.prog 27 [.agg (cFamily false x0), .agg (cLaw false x1), .int .i64 x2, .int .i64 x3] (C27 (specPartners x0 x1 x2 x3)) := by
  have aux : ∀ R, specPartners x0 x1 x2 x3 = R → slim (C27 R) (A27 x0 x1 x2 x3) [] := by
    intro R hR
    refine rg trivial ?_
    refine rg ⟨trivial, fun hg0 => ⟨by trivial, by trivial, by trivial⟩, trivial⟩ ?_
    revert hR; refine cd (fun hc1 hR => ?_) fun hc1 hR => ?_
    ·
      refine rg trivial ?_
      exact congrArg C27 hR
    ·
      refine rg ⟨trivial, trivial⟩ ?_
      refine rg trivial ?_
      revert hR; refine lN (fun i v => v.length ≤ i) (by trivial) rfl fun i1 v1 F1 hn1 hI1 hR hK1 => ?_
      refine rg trivial ?_
      refine ⟨fun hc2 => ?_, fun hc2 => ?_⟩
      · have hii1 : i1 < x0.people.length := by have := of_decide_eq_true hc2; omega
        replace hR := loopN_step hR hii1
        refine rg ⟨by (have h9 := par_pre hc1; first | exact h9.1 | exact h9.2.1 | exact h9.2.2.1 | exact h9.2.2.2 | omega), by (have h9 := par_pre hc1; first | exact h9.1 | exact h9.2.1 | exact h9.2.2.1 | exact h9.2.2.2 | omega), by ((try clear hR hK1); intros; (try simp only [decide_eq_true_eq, decide_eq_false_iff_not, Bool.or_eq_true, Bool.and_eq_true, or_f_iff, not_f_iff, not_t_iff, Bool.not_eq_true', inR] at *); (repeat' apply And.intro) <;> (intros; omega)), fun hg0 => ⟨by trivial, by trivial, by trivial⟩, fun hg0 => ⟨by trivial, by trivial, by trivial⟩, trivial⟩ ?_
        revert hR; refine cd (fun hc3 hR => ?_) fun hc3 hR => ?_
        ·
          refine rg ⟨trivial, by omega, trivial⟩ ?_
          refine rg ⟨by ( intros; simp only [inR]; omega), trivial⟩ ?_
          exact hK1 (v1 ++ [((i1 : Nat) : Int)]) hii1 (by ((try simp only [decide_eq_true_eq, decide_eq_false_iff_not, List.length_append, List.length_set, List.length_cons, List.length_nil, List.length_replicate] at *); omega)) hR
        ·
          refine rg ⟨by ( intros; simp only [inR]; omega), trivial⟩ ?_
          exact hK1 v1 hii1 (by (intros; omega)) hR
      · obtain rfl : i1 = x0.people.length := by have := of_decide_eq_false hc2; omega
        replace hR := loopN_end hR (Nat.lt_irrefl _)
        refine rg trivial ?_
        exact congrArg C27 hR
  exact Fn.go 65 Try.func27 (by kernel_rfl) (by kernel_rfl) (by simp [C27, Frs, FrsL, FrsB, rowOf, cInt, cBool, cStr, cSl, FrsL_app, cPerson, cUnion, cFamily, cLaw]) (A27 x0 x1 x2 x3) (by kernel_rfl) (aux _ rfl)
def k27 (x0 : Family) (x1 : Law) (x2 : Int) (x3 : Int) : Cl := (hres (C27 (specPartners x0 x1 x2 x3)), k3 (ok_spec_PartnersAllowed x0 x1 x2 x3))
def C26 (R : (List Int)) : LV × List (Nat × BC) := (.own 0, [(0, .arr 1 R.length (rowOf (cInt .i64) R))])
def implPartners (x0 : Family) (x1 : Law) (x2 : Int) (x3 : Int) : (List Int) := bif ((!(implHas x0 [x2])) || (!(implIsLaw x1))) then ([] : List Int) else (loopN (fun i1 (v1 : (List Int)) next => bif (decide (((x0.people.getD x2.toNat default).sex) = 2)) then (bif (decide ((((impediments x0 x1 ((i1 : Nat) : Int) x2 x3).length : Nat) : Int) = 0)) then (next (v1 ++ [((i1 : Nat) : Int)])) else (next v1)) else (bif (decide ((((impediments x0 x1 x2 ((i1 : Nat) : Int) x3).length : Nat) : Int) = 0)) then (next (v1 ++ [((i1 : Nat) : Int)])) else (next v1))) (fun (v1 : (List Int)) => v1) x0.people.length 0 ([] : List Int))
def D26b1 (x0 : Family) (x1 : Law) (x2 : Int) (x3 : Int) (i1 : Nat) (v1 : (List Int)) : Dl := ⟨[(26, .int .i64 ((i1 : Nat) : Int)), (9, .own 20009)], [(20009, .arr 1 v1.length (rowOf (cInt .i64) v1))]⟩
def A26b1 (x0 : Family) (x1 : Law) (x2 : Int) (x3 : Int) (i1 : Nat) (v1 : (List Int)) : Ann := r0 1 [2, 3, 4, 5, 8, 9, 25, 26, 27] [4, 5, 20009] (cn (decide (((i1 : Nat) : Int) < ((x0.people.length : Nat) : Int))) (r0 2 [2, 3, 4, 5, 8, 9, 10, 11, 12, 25, 26] [4, 5, 20009] (r1 1 [2, 3, 4, 5, 8, 9, 10, 11, 12, 25, 26, 37] [4, 5, 20009] [pf (0 ≤ (x2 : Int) ∧ (x2 : Int) < ((x0.people.length : Nat) : Int))] [0] (cn (decide (((x0.people.getD x2.toNat default).sex) = 2)) (r0 1 [2, 3, 4, 5, 8, 9, 10, 11, 12, 25, 26] [4, 5, 20009] (.reg 1 [] [(5, k44 x0 x1 ((i1 : Nat) : Int) x2 x3)] [2, 3, 4, 5, 8, 9, 10, 25, 26, 47] [4, 5, 20009] [] [] [] [0] (cn (decide ((((impediments x0 x1 ((i1 : Nat) : Int) x2 x3).length : Nat) : Int) = 0)) (.reg 1 [] [(2, bsC 50 (cInt .i64) ([((i1 : Nat) : Int)] : List Int)), (3, ap1 51 (cInt .i64) 8 v1 ((i1 : Nat) : Int))] [2, 3, 4, 5, 8, 9, 25, 26] [4, 5, 51] [] [] [] [0, 4] (r1 1 [2, 3, 4, 5, 8, 9, 25, 26] [4, 5, 51] [pf (inR .i64 (((i1 : Nat) : Int) + 1))] [0] (.next 0 [(20009, some 51)] (D26b1 x0 x1 x2 x3 (i1 + 1) (v1 ++ [((i1 : Nat) : Int)]))))) (r1 1 [2, 3, 4, 5, 8, 9, 25, 26] [4, 5, 20009] [pf (inR .i64 (((i1 : Nat) : Int) + 1))] [0] (.next 0 [(20009, some 20009)] (D26b1 x0 x1 x2 x3 (i1 + 1) v1)))))) (.reg 1 [] [(5, k44 x0 x1 x2 ((i1 : Nat) : Int) x3)] [2, 3, 4, 5, 8, 9, 10, 25, 26, 47] [4, 5, 20009] [] [] [] [0] (cn (decide ((((impediments x0 x1 x2 ((i1 : Nat) : Int) x3).length : Nat) : Int) = 0)) (.reg 1 [] [(2, bsC 50 (cInt .i64) ([((i1 : Nat) : Int)] : List Int)), (3, ap1 51 (cInt .i64) 8 v1 ((i1 : Nat) : Int))] [2, 3, 4, 5, 8, 9, 25, 26] [4, 5, 51] [] [] [] [0, 4] (r1 1 [2, 3, 4, 5, 8, 9, 25, 26] [4, 5, 51] [pf (inR .i64 (((i1 : Nat) : Int) + 1))] [0] (.next 0 [(20009, some 51)] (D26b1 x0 x1 x2 x3 (i1 + 1) (v1 ++ [((i1 : Nat) : Int)]))))) (r1 1 [2, 3, 4, 5, 8, 9, 25, 26] [4, 5, 20009] [pf (inR .i64 (((i1 : Nat) : Int) + 1))] [0] (.next 0 [(20009, some 20009)] (D26b1 x0 x1 x2 x3 (i1 + 1) v1)))))))) (r0 1 [8] [20009] (rt [(0, some 20009)] (C26 v1))))
def A26 (x0 : Family) (x1 : Law) (x2 : Int) (x3 : Int) : Ann := r0 1 [2, 3, 4, 5, 8] [4, 5] (.reg 1 [] [(2, bsC 15 (cInt .i64) ([x2] : List Int)), (3, k43 x0 [x2]), (7, cg (!(!(implHas x0 [x2]))) (k42 x1))] [2, 3, 4, 5, 8, 22] [4, 5] [!(!(implHas x0 [x2])), !(implHas x0 [x2])] [] [] [0, 4, 1, 8, 1, 6] (cn ((!(implHas x0 [x2])) || (!(implIsLaw x1))) (r0 1 [2, 3, 4, 5, 8] [4, 5] (rt [(0, none)] (C26 ([] : List Int)))) (r0 1 [2, 3, 4, 5, 8, 9] [4, 5] (r0 1 [2, 3, 4, 5, 8, 9, 25, 26] [4, 5] (lp (D26b1 x0 x1 x2 x3) [] [] [(20009, none)] (D26b1 x0 x1 x2 x3 0 ([] : List Int)) (A26b1 x0 x1 x2 x3))))))
theorem ok_impl_PartnersAllowed (x0 : Family) (x1 : Law) (x2 : Int) (x3 : Int) (hx : x0.people.length ≤ 1048576) (hu : x0.unions.length ≤ 1048576) (hn : ∀ p ∈ x0.people, p.name.length ≤ 1048576) : FnT Try.prog 26 [.agg (cFamily false x0), .agg (cLaw false x1), .int .i64 x2, .int .i64 x3] (C26 (implPartners x0 x1 x2 x3)) := by
  have aux : ∀ R, implPartners x0 x1 x2 x3 = R → slim (C26 R) (A26 x0 x1 x2 x3) [] := by
    intro R hR
    refine rg trivial ?_
    refine rg ⟨trivial, ⟨by trivial, by trivial, by trivial, by ((try simp only [decide_eq_true_eq, decide_eq_false_iff_not, List.length_append, List.length_set, List.length_cons, List.length_nil, List.length_replicate] at *); omega)⟩, fun hg0 => trivial, trivial⟩ ?_
    revert hR; refine cd (fun hc1 hR => ?_) fun hc1 hR => ?_
    ·
      refine rg trivial ?_
      exact congrArg C26 hR
    ·
      refine rg trivial ?_
      refine rg trivial ?_
      revert hR; refine lN (fun i v => v.length ≤ i) (by trivial) rfl fun i1 v1 F1 hn1 hI1 hR hK1 => ?_
      refine rg trivial ?_
      refine ⟨fun hc2 => ?_, fun hc2 => ?_⟩
      · have hii1 : i1 < x0.people.length := by have := of_decide_eq_true hc2; omega
        replace hR := loopN_step hR hii1
        refine rg trivial ?_
        refine rg ⟨by (have h9 := par_pre2 hc1; first | exact h9.1 | exact h9.2.1 | exact h9.2.2.1 | exact h9.2.2.2 | omega), trivial⟩ ?_
        revert hR; refine cd (fun hc3 hR => ?_) fun hc3 hR => ?_
        ·
          refine rg trivial ?_
          refine rg ⟨⟨by trivial, by (have h9 := par_pre2 hc1; first | exact h9.1 | exact h9.2.1 | exact h9.2.2.1 | exact h9.2.2.2 | omega), by trivial, by (intros; omega), by (have h9 := par_pre2 hc1; first | exact h9.1 | exact h9.2.1 | exact h9.2.2.1 | exact h9.2.2.2 | omega), by (have h9 := par_pre2 hc1; first | exact h9.1 | exact h9.2.1 | exact h9.2.2.1 | exact h9.2.2.2 | omega)⟩, trivial⟩ ?_
          revert hR; refine cd (fun hc4 hR => ?_) fun hc4 hR => ?_
          ·
            refine rg ⟨trivial, by omega, trivial⟩ ?_
            refine rg ⟨by ( intros; simp only [inR]; omega), trivial⟩ ?_
            exact hK1 (v1 ++ [((i1 : Nat) : Int)]) hii1 (by ((try simp only [decide_eq_true_eq, decide_eq_false_iff_not, List.length_append, List.length_set, List.length_cons, List.length_nil, List.length_replicate] at *); omega)) hR
          ·
            refine rg ⟨by ( intros; simp only [inR]; omega), trivial⟩ ?_
            exact hK1 v1 hii1 (by (intros; omega)) hR
        ·
          refine rg ⟨⟨by trivial, by (have h9 := par_pre2 hc1; first | exact h9.1 | exact h9.2.1 | exact h9.2.2.1 | exact h9.2.2.2 | omega), by trivial, by (have h9 := par_pre2 hc1; first | exact h9.1 | exact h9.2.1 | exact h9.2.2.1 | exact h9.2.2.2 | omega), by (intros; omega), by (have h9 := par_pre2 hc1; first | exact h9.1 | exact h9.2.1 | exact h9.2.2.1 | exact h9.2.2.2 | omega)⟩, trivial⟩ ?_
          revert hR; refine cd (fun hc5 hR => ?_) fun hc5 hR => ?_
          ·
            refine rg ⟨trivial, by omega, trivial⟩ ?_
            refine rg ⟨by ( intros; simp only [inR]; omega), trivial⟩ ?_
            exact hK1 (v1 ++ [((i1 : Nat) : Int)]) hii1 (by ((try simp only [decide_eq_true_eq, decide_eq_false_iff_not, List.length_append, List.length_set, List.length_cons, List.length_nil, List.length_replicate] at *); omega)) hR
          ·
            refine rg ⟨by ( intros; simp only [inR]; omega), trivial⟩ ?_
            exact hK1 v1 hii1 (by (intros; omega)) hR
      · obtain rfl : i1 = x0.people.length := by have := of_decide_eq_false hc2; omega
        replace hR := loopN_end hR (Nat.lt_irrefl _)
        refine rg trivial ?_
        exact congrArg C26 hR
  exact Fn.go 54 Try.func26 (by kernel_rfl) (by kernel_rfl) (by simp [C26, Frs, FrsL, FrsB, rowOf, cInt, cBool, cStr, cSl, FrsL_app, cPerson, cUnion, cFamily, cLaw]) (A26 x0 x1 x2 x3) (by kernel_rfl) (aux _ rfl)
def k26 (x0 : Family) (x1 : Law) (x2 : Int) (x3 : Int) : Cl := (hres (C26 (implPartners x0 x1 x2 x3)), k3 (ok_impl_PartnersAllowed x0 x1 x2 x3))
end Go.Proofs.Ytikfeeaapenplaa
