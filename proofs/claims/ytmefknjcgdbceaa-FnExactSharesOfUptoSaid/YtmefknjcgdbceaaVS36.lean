import Derived.Test.YtmefknjcgdbceaaM156
set_option maxHeartbeats 4000000
set_option linter.unusedSimpArgs false
set_option linter.unusedVariables false
namespace Go.Proofs.Ytmefknjcgdbceaa
open Go Go.Lite Go.Proofs
def C55 (R : Int) : LV × List (Nat × BC) := (.int .i64 R, [])
def l10Gcd (x0 : Int) (x1 : Int) : Int := loopW (fun (v1 : Int × Int) next => bif (!decide (v1.2 = 0)) then (next (v1.2, v1.1.tmod v1.2)) else v1.1) ((x1).toNat + 1) (x0, x1)
def D55b1 (x0 : Int) (x1 : Int) (v1 : Int × Int) : Dl := ⟨[(0, .int .i64 v1.1), (1, .int .i64 v1.2)], []⟩
def A55b1 (x0 : Int) (x1 : Int) (v1 : Int × Int) : Ann := r0 1 [0, 1, 4, 7] [] (cn (!decide (v1.2 = 0)) (r1 2 [0, 1, 4, 5] [] [pf ((v1.2 : Int) ≠ 0)] [0] (r0 1 [0, 1, 4] [] (.next 0 [] (D55b1 x0 x1 (v1.2, v1.1.tmod v1.2))))) (r0 1 [4] [] (rt [] (C55 v1.1))))
def A55 (x0 : Int) (x1 : Int) : Ann := r0 1 [0, 1, 4] [] (.loop (Int × Int) (D55b1 x0 x1) [] [] [] (D55b1 x0 x1 (x0, x1)) (A55b1 x0 x1))
theorem ok_spec_l10Gcd (x0 : Int) (x1 : Int) (h0 : 0 ≤ x0) (h1 : 0 ≤ x1) : FnT Try.prog 55 [.int .i64 x0, .int .i64 x1] (C55 (l10Gcd x0 x1)) := by
  have aux : ∀ R, l10Gcd x0 x1 = R → slim (C55 R) (A55 x0 x1) [] := by
    intro R hR
    refine rg trivial ?_
    revert hR; refine lW (fun v => 0 ≤ v.1 ∧ 0 ≤ v.2) (fun v => (v.2).toNat) (by trivial) (Nat.lt_succ_self _) rfl fun m1 v1 F1 hI1 hM1 hR hK1 => ?_
    refine rg trivial ?_
    revert hR; refine cd (fun hc1 hR => ?_) fun hc1 hR => ?_
    ·
      refine rg ⟨by (have h9 := Int.tmod_nonneg (a := v1.1) v1.2 hI1.1; have h8 := Int.tmod_lt_of_pos v1.1 (b := v1.2) (by simp only [decide_eq_true_eq, decide_eq_false_iff_not, Bool.not_eq_true', Bool.not_eq_false'] at *; omega); omega), trivial⟩ ?_
      refine rg trivial ?_
      exact hK1 (v1.2, v1.1.tmod v1.2) (by (have h9 := Int.tmod_nonneg (a := v1.1) v1.2 hI1.1; have h8 := Int.tmod_lt_of_pos v1.1 (b := v1.2) (by simp only [decide_eq_true_eq, decide_eq_false_iff_not, Bool.not_eq_true', Bool.not_eq_false'] at *; omega); omega)) (by (have h9 := Int.tmod_nonneg (a := v1.1) v1.2 hI1.1; have h8 := Int.tmod_lt_of_pos v1.1 (b := v1.2) (by simp only [decide_eq_true_eq, decide_eq_false_iff_not, Bool.not_eq_true', Bool.not_eq_false'] at *; omega); omega)) hR
    ·
      refine rg trivial ?_
      exact congrArg C55 hR
  exact Fn.go 14 Try.func55 (by kernel_rfl) (by kernel_rfl) (by simp [C55, Frs, FrsL]) (A55 x0 x1) (by kernel_rfl) (aux _ rfl)
def k55 (x0 : Int) (x1 : Int) : Cl := (hres (C55 (l10Gcd x0 x1)), k2 (ok_spec_l10Gcd x0 x1))
def C20 (R : (List Share)) : LV × List (Nat × BC) := (.own 0, [(0, .arr 3 R.length (rowOf (cShare true) R))])
def l10Kept (x0 : List Share) : (List Share) := loopN (fun i1 (v1 : (List Share)) next => bif (decide (0 < ((x0.getD i1 default).num))) then (next (v1 ++ [(x0.getD i1 default)])) else (next v1)) (fun (v1 : (List Share)) => v1) x0.length 0 ([] : List Share)
def D20b1 (x0 : List Share) (i1 : Nat) (v1 : (List Share)) : Dl := ⟨[(9, .int .i64 ((i1 : Nat) : Int)), (3, .own 20003)], [(20003, .arr 3 v1.length (rowOf (cShare true) v1))]⟩
def A20b1 (x0 : List Share) (i1 : Nat) (v1 : (List Share)) : Ann := r0 1 [2, 3, 7, 8, 9, 10] [20003] (cn (decide (((i1 : Nat) : Int) < ((x0.length : Nat) : Int))) (r1 2 [2, 3, 5, 7, 8, 9, 15] [5, 20003] [pf (0 ≤ (((i1 : Nat) : Int) : Int) ∧ (((i1 : Nat) : Int) : Int) < ((x0.length : Nat) : Int))] [0] (cn (decide (0 < ((x0.getD i1 default).num))) (.reg 1 [] [(2, bsC 18 (cShare true) ([(x0.getD i1 default)] : List Share)), (3, ap1 19 (cShare true) 24 v1 (x0.getD i1 default))] [2, 3, 7, 8, 9] [19] [] [] [] [0, 4] (r1 1 [2, 3, 7, 8, 9] [19] [pf (inR .i64 (((i1 : Nat) : Int) + 1))] [0] (.next 0 [(20003, some 19)] (D20b1 x0 (i1 + 1) (v1 ++ [(x0.getD i1 default)]))))) (r1 1 [2, 3, 7, 8, 9] [20003] [pf (inR .i64 (((i1 : Nat) : Int) + 1))] [0] (.next 0 [(20003, some 20003)] (D20b1 x0 (i1 + 1) v1))))) (r0 1 [2] [20003] (rt [(0, some 20003)] (C20 v1))))
def A20 (x0 : List Share) : Ann := .reg 2 [] [(1000, bsC 6 (cShare true) ([] : List Share))] [0, 2, 3] [6] [] [] [] [0] (r0 1 [2, 3, 7, 8, 9] [6] (lp (D20b1 x0) [] [6] [(20003, some 6)] (D20b1 x0 0 ([] : List Share)) (A20b1 x0)))
theorem ok_spec_l10Kept (x0 : List Share) (hx : x0.length ≤ 1048576) : FnT Try.prog 20 [.ro false 3 x0.length (rowOf (cShare false) x0)] (C20 (l10Kept x0)) := by
  have aux : ∀ R, l10Kept x0 = R → slim (C20 R) (A20 x0) [] := by
    intro R hR
    refine rg ⟨trivial, trivial⟩ ?_
    refine rg trivial ?_
    revert hR; refine lN (fun i v => v.length ≤ i) (by ((try simp only [decide_eq_true_eq, decide_eq_false_iff_not, List.length_append, List.length_set, List.length_cons, List.length_nil, List.length_replicate] at *); omega)) rfl fun i1 v1 F1 hn1 hI1 hR hK1 => ?_
    refine rg trivial ?_
    refine ⟨fun hc1 => ?_, fun hc1 => ?_⟩
    · have hii1 : i1 < x0.length := by have := of_decide_eq_true hc1; omega
      replace hR := loopN_step hR hii1
      refine rg ⟨by (intros; omega), trivial⟩ ?_
      revert hR; refine cd (fun hc2 hR => ?_) fun hc2 hR => ?_
      ·
        refine rg ⟨trivial, by omega, trivial⟩ ?_
        refine rg ⟨by ( intros; simp only [inR]; omega), trivial⟩ ?_
        exact hK1 (v1 ++ [(x0.getD i1 default)]) hii1 (by ((try simp only [decide_eq_true_eq, decide_eq_false_iff_not, List.length_append, List.length_set, List.length_cons, List.length_nil, List.length_replicate] at *); omega)) hR
      ·
        refine rg ⟨by ( intros; simp only [inR]; omega), trivial⟩ ?_
        exact hK1 v1 hii1 (by (intros; omega)) hR
    · obtain rfl : i1 = x0.length := by have := of_decide_eq_false hc1; omega
      replace hR := loopN_end hR (Nat.lt_irrefl _)
      refine rg trivial ?_
      exact congrArg C20 hR
  exact Fn.go 22 Try.func20 (by kernel_rfl) (by kernel_rfl) (by simp [C20, Frs, FrsL, FrsB, rowOf, cInt, cBool, cStr, cSl, FrsL_app, cPerson, cUnion, cFamily, cestate, cShare]) (A20 x0) (by kernel_rfl) (aux _ rfl)
def k20 (x0 : List Share) : Cl := (hres (C20 (l10Kept x0)), k1 (ok_spec_l10Kept x0))
def C19 (R : (List Int)) : LV × List (Nat × BC) := (.own 0, [(0, .arr 1 R.length (rowOf (cInt .i64) R))])
def l10Parents (x0 : Family) (x1 : List Int) : (List Int) := loopN (fun i1 (v1 : (List Bool)) nx1 => loopN (fun i2 (v2 : (List Bool)) next => next (v2.set (((l1Parents x0 (x1.getD i1 default)).getD i2 default).toNat) true)) (fun (v2 : (List Bool)) => nx1 v2) ((l1Parents x0 (x1.getD i1 default)).length) 0 v1) (fun (v1 : (List Bool)) => l3Listed v1) x1.length 0 (List.replicate x0.people.length (default : Bool))
def D19b1 (x0 : Family) (x1 : List Int) (i1 : Nat) (v1 : (List Bool)) : Dl := ⟨[(16, .int .i64 ((i1 : Nat) : Int)), (5, .own 20005)], [(20005, .arr 1 x0.people.length (rowOf (cBool) v1))]⟩
def D19b2 (x0 : Family) (x1 : List Int) (i1 : Nat) (v1 : (List Bool)) (i2 : Nat) (v2 : (List Bool)) : Dl := ⟨[(24, .int .i64 ((i2 : Nat) : Int)), (5, .own 30005)], [(30005, .arr 1 x0.people.length (rowOf (cBool) v2))]⟩
def A19b2 (x0 : Family) (x1 : List Int) (i1 : Nat) (v1 : (List Bool)) (i2 : Nat) (v2 : (List Bool)) : Ann := r0 1 [2, 4, 5, 14, 15, 16, 22, 23, 24, 25] [2, 1022, 30005] (cn (decide (((i2 : Nat) : Int) < (((l1Parents x0 (x1.getD i1 default)).length : Nat) : Int))) (r1 1 [2, 4, 5, 9, 14, 15, 16, 22, 23, 24] [2, 1022, 30005] [pf (0 ≤ (((i2 : Nat) : Int) : Int) ∧ (((i2 : Nat) : Int) : Int) < (((l1Parents x0 (x1.getD i1 default)).length : Nat) : Int))] [0] (.reg 1 [] [(3, stC 30005 (cBool) x0.people.length v2 (((l1Parents x0 (x1.getD i1 default)).getD i2 default).toNat) true)] [2, 4, 5, 14, 15, 16, 22, 23, 24] [2, 1022, 30005] [] [pf (0 ≤ (((l1Parents x0 (x1.getD i1 default)).getD i2 default) : Int) ∧ (((l1Parents x0 (x1.getD i1 default)).getD i2 default) : Int) < ((x0.people.length : Nat) : Int))] [] [0, 4] (r1 1 [2, 4, 5, 14, 15, 16, 22, 23, 24] [2, 1022, 30005] [pf (inR .i64 (((i2 : Nat) : Int) + 1))] [0] (.next 0 [(30005, some 30005)] (D19b2 x0 x1 i1 v1 (i2 + 1) (v2.set (((l1Parents x0 (x1.getD i1 default)).getD i2 default).toNat) true)))))) (r1 1 [2, 4, 5, 14, 15, 16] [2, 30005] [pf (inR .i64 (((i1 : Nat) : Int) + 1))] [0] (.next 1 [(20005, some 30005)] (D19b1 x0 x1 (i1 + 1) v2))))
def A19b1 (x0 : Family) (x1 : List Int) (i1 : Nat) (v1 : (List Bool)) : Ann := r0 1 [2, 4, 5, 14, 15, 16, 17] [2, 20005] (cn (decide (((i1 : Nat) : Int) < ((x1.length : Nat) : Int))) (.reg 2 [] [(1002, k37 x0 (x1.getD i1 default))] [2, 4, 5, 14, 15, 16, 22, 23, 24] [2, 1022, 20005] [] [pf (0 ≤ (((i1 : Nat) : Int) : Int) ∧ (((i1 : Nat) : Int) : Int) < ((x1.length : Nat) : Int))] [] [0, 4] (lp (D19b2 x0 x1 i1 v1) [] [20005] [(30005, some 20005)] (D19b2 x0 x1 i1 v1 0 v1) (A19b2 x0 x1 i1 v1))) (.co false 20005 v1.length (rowOf (cBool) v1) [lnP (rowOf (cBool) v1) x0.people.length v1.length] [] 0 (.reg 1 [] [(1, k40 v1)] [4] [1034] [] [] [] [0] (rt [(0, some 1034)] (C19 (l3Listed v1))))))
def A19 (x0 : Family) (x1 : List Int) : Ann := .reg 2 [] [(1003, msC 13 (cBool) 1 ((x0.people.length : Nat) : Int) ((x0.people.length : Nat) : Int) x0.people.length (default : Bool) (rfl))] [1, 2, 4, 5] [2, 13] [] [] [] [0] (r0 1 [2, 4, 5, 14, 15, 16] [2, 13] (lp (D19b1 x0 x1) [] [13] [(20005, some 13)] (D19b1 x0 x1 0 (List.replicate x0.people.length (default : Bool))) (A19b1 x0 x1)))
theorem ok_spec_l10Parents (x0 : Family) (x1 : List Int) (hf : specIsFamily x0 = true) (hx : x1.length ≤ 1048576) (hk : ∀ c ∈ x1, 0 ≤ c ∧ c < x0.people.length) : FnT Try.prog 19 [.agg (cFamily false x0), .ro false 1 x1.length (rowOf (cInt .i64) x1)] (C19 (l10Parents x0 x1)) := by
  have aux : ∀ R, l10Parents x0 x1 = R → slim (C19 R) (A19 x0 x1) [] := by
    intro R hR
    refine rg ⟨by (have h9 := fam_n hf; (try simp only [inR]); omega), trivial⟩ ?_
    refine rg trivial ?_
    revert hR; refine lN (fun i v => v.length = x0.people.length) (by (simp only [List.length_replicate]; done)) rfl fun i1 v1 F1 hn1 hI1 hR hK1 => ?_
    refine rg trivial ?_
    refine ⟨fun hc1 => ?_, fun hc1 => ?_⟩
    · have hii1 : i1 < x1.length := by have := of_decide_eq_true hc1; omega
      replace hR := loopN_step hR hii1
      refine rg ⟨by (intros; omega), ⟨by (have h9 := fam_n hf; (try simp only [inR]); omega), by (exact hk _ (getD_mem hii1))⟩, trivial⟩ ?_
      have hp1 := l1Parents_rng x0 (x1.getD i1 default)
      revert hR; refine lN (fun i v => v.length = x0.people.length) (by with_reducible assumption) rfl fun i2 v2 F2 hn2 hI2 hR hK2 => ?_
      refine rg trivial ?_
      refine ⟨fun hc2 => ?_, fun hc2 => ?_⟩
      · have hii2 : i2 < (l1Parents x0 (x1.getD i1 default)).length := by have := of_decide_eq_true hc2; omega
        replace hR := loopN_step hR hii2
        refine rg ⟨by (intros; omega), trivial⟩ ?_
        refine rg ⟨by (have h8 := hk _ (getD_mem (d := (default : Int)) hii1); have h7 := parent_lt (isFamily_par x0 hf) (a := (x1.getD i1 default)) (by omega) (getD_mem (d := (default : Int)) hii2); omega), by (have h8 := hk _ (getD_mem (d := (default : Int)) hii1); have h7 := parent_lt (isFamily_par x0 hf) (a := (x1.getD i1 default)) (by omega) (getD_mem (d := (default : Int)) hii2); omega), trivial⟩ ?_
        refine rg ⟨by (have h9 := fam_n hf; (try simp only [inR]); omega), trivial⟩ ?_
        exact hK2 (v2.set (((l1Parents x0 (x1.getD i1 default)).getD i2 default).toNat) true) hii2 (by (simp only [List.length_set]; exact hI2)) hR
      · obtain rfl : i2 = (l1Parents x0 (x1.getD i1 default)).length := by have := of_decide_eq_false hc2; omega
        replace hR := loopN_end hR (Nat.lt_irrefl _)
        refine rg ⟨by (have h9 := fam_n hf; (try simp only [inR]); omega), trivial⟩ ?_
        exact hK1 v2 hii1 (by with_reducible assumption) hR
    · obtain rfl : i1 = x1.length := by have := of_decide_eq_false hc1; omega
      replace hR := loopN_end hR (Nat.lt_irrefl _)
      refine og (by (intros; omega)) ?_
      refine rg ⟨by (have h9 := fam_n hf; (try simp only [inR]); omega), trivial⟩ ?_
      exact congrArg C19 hR
  exact Fn.go 35 Try.func19 (by kernel_rfl) (by kernel_rfl) (by simp [C19, Frs, FrsL, FrsB, rowOf, cInt, cBool, cStr, cSl, FrsL_app, cPerson, cUnion, cFamily, cestate, cShare]) (A19 x0 x1) (by kernel_rfl) (aux _ rfl)
def k19 (x0 : Family) (x1 : List Int) : Cl := (hres (C19 (l10Parents x0 x1)), k3 (ok_spec_l10Parents x0 x1))
def C16 (R : (List Bool)) : LV × List (Nat × BC) := (.own 0, [(0, .arr 1 R.length (rowOf (cBool) R))])
def l10Part (x0 : Family) (x1 : Int) (x2 : Int) : (List Bool) := loopW (fun (v1 : (List Bool) × Int) nx1 => bif (decide (0 ≤ v1.2)) then (jn (fun K1 => bif ((decide (v1.2 = x1)) || (decide (x2 < ((x0.people.getD v1.2.toNat default).born)))) then (K1 ((v1.1.set v1.2.toNat ((v1.1.getD v1.2.toNat default) || (l1Alive x0 v1.2 x2))).set v1.2.toNat false)) else (K1 (v1.1.set v1.2.toNat ((v1.1.getD v1.2.toNat default) || (l1Alive x0 v1.2 x2))))) (fun (j1 : (List Bool)) => loopN (fun i2 (v2 : (List Bool)) next => next (v2.set (((l1Parents x0 v1.2).getD i2 default).toNat) ((v2.getD (((l1Parents x0 v1.2).getD i2 default).toNat) default) || (v2.getD v1.2.toNat default)))) (fun (v2 : (List Bool)) => nx1 (v2, v1.2 - 1)) ((l1Parents x0 v1.2).length) 0 j1)) else v1.1) ((((x0.people.length : Nat) : Int) - 1 + 1).toNat + 1) ((List.replicate x0.people.length (default : Bool)), ((x0.people.length : Nat) : Int) - 1)
def D16b1 (x0 : Family) (x1 : Int) (x2 : Int) (v1 : (List Bool) × Int) : Dl := ⟨[(7, .own 20007), (8, .int .i64 v1.2)], [(20007, .arr 1 x0.people.length (rowOf (cBool) v1.1))]⟩
def D16j1 (x0 : Family) (x1 : Int) (x2 : Int) (v1 : (List Bool) × Int) (j1 : (List Bool)) : Dl := ⟨[(7, .own 30007)], [(30007, .arr 1 x0.people.length (rowOf (cBool) j1))]⟩
def D16b2 (x0 : Family) (x1 : Int) (x2 : Int) (v1 : (List Bool) × Int) (j1 : (List Bool)) (i2 : Nat) (v2 : (List Bool)) : Dl := ⟨[(57, .int .i64 ((i2 : Nat) : Int)), (7, .own 20007)], [(20007, .arr 1 x0.people.length (rowOf (cBool) v2))]⟩
def A16b2 (x0 : Family) (x1 : Int) (x2 : Int) (v1 : (List Bool) × Int) (j1 : (List Bool)) (i2 : Nat) (v2 : (List Bool)) : Ann := r0 1 [1, 2, 3, 6, 7, 8, 55, 56, 57, 58] [3, 1055, 20007] (cn (decide (((i2 : Nat) : Int) < (((l1Parents x0 v1.2).length : Nat) : Int))) (r1 1 [1, 2, 3, 6, 7, 8, 11, 55, 56, 57] [3, 1055, 20007] [pf (0 ≤ (((i2 : Nat) : Int) : Int) ∧ (((i2 : Nat) : Int) : Int) < (((l1Parents x0 v1.2).length : Nat) : Int))] [0] (.reg 1 [] [(13, stC 20007 (cBool) x0.people.length v2 (((l1Parents x0 v1.2).getD i2 default).toNat) ((v2.getD (((l1Parents x0 v1.2).getD i2 default).toNat) default) || (v2.getD v1.2.toNat default)))] [1, 2, 3, 6, 7, 8, 55, 56, 57] [3, 1055, 20007] [!(v2.getD (((l1Parents x0 v1.2).getD i2 default).toNat) default), (v2.getD (((l1Parents x0 v1.2).getD i2 default).toNat) default)] [pf (0 ≤ (((l1Parents x0 v1.2).getD i2 default) : Int) ∧ (((l1Parents x0 v1.2).getD i2 default) : Int) < ((x0.people.length : Nat) : Int)), gt (!(v2.getD (((l1Parents x0 v1.2).getD i2 default).toNat) default)) (pf (0 ≤ (v1.2 : Int) ∧ (v1.2 : Int) < ((x0.people.length : Nat) : Int)))] [] [0, 1, 1, 4, 1, 6, 0, 8] (r1 1 [1, 2, 3, 6, 7, 8, 55, 56, 57] [3, 1055, 20007] [pf (inR .i64 (((i2 : Nat) : Int) + 1))] [0] (.next 0 [(20007, some 20007)] (D16b2 x0 x1 x2 v1 j1 (i2 + 1) (v2.set (((l1Parents x0 v1.2).getD i2 default).toNat) ((v2.getD (((l1Parents x0 v1.2).getD i2 default).toNat) default) || (v2.getD v1.2.toNat default)))))))) (r1 1 [1, 2, 3, 6, 7, 8] [3, 20007] [pf (inR .i64 (v1.2 - 1))] [0] (.next 1 [(20007, some 20007)] (D16b1 x0 x1 x2 (v2, v1.2 - 1)))))
def A16j1 (x0 : Family) (x1 : Int) (x2 : Int) (v1 : (List Bool) × Int) (j1 : (List Bool)) : Ann := .reg 1 [] [(2, k37 x0 v1.2)] [1, 2, 3, 6, 7, 8, 55, 56, 57] [3, 1055, 30007] [] [] [] [0] (lp (D16b2 x0 x1 x2 v1 j1) [] [30007] [(20007, some 30007)] (D16b2 x0 x1 x2 v1 j1 0 j1) (A16b2 x0 x1 x2 v1 j1))
def A16b1 (x0 : Family) (x1 : Int) (x2 : Int) (v1 : (List Bool) × Int) : Ann := r0 1 [1, 2, 3, 6, 7, 8, 20] [3, 20007] (cn (decide (0 ≤ v1.2)) (.reg 2 [] [(1010, cg (!(v1.1.getD v1.2.toNat default)) (k36 x0 v1.2 x2)), (1013, stC 20007 (cBool) x0.people.length v1.1 v1.2.toNat ((v1.1.getD v1.2.toNat default) || (l1Alive x0 v1.2 x2)))] [1, 2, 3, 6, 7, 8, 9] [3, 9, 20007] [!(v1.1.getD v1.2.toNat default), (v1.1.getD v1.2.toNat default)] [pf (0 ≤ (v1.2 : Int) ∧ (v1.2 : Int) < ((x0.people.length : Nat) : Int))] [] [0, 0, 1, 1, 1, 4, 6, 0, 8] (.join 0 (List Bool) (D16j1 x0 x1 x2 v1) [1, 2, 3, 6, 7, 8] [3] (.reg 1 [] [] [1, 2, 3, 6, 7, 8, 49] [3, 20007] [!(decide (v1.2 = x1)), decide (v1.2 = x1)] [] [] [1, 1, 1, 6] (cn ((decide (v1.2 = x1)) || (decide (x2 < ((x0.people.getD v1.2.toNat default).born)))) (.reg 1 [] [(3, stC 20007 (cBool) x0.people.length (v1.1.set v1.2.toNat ((v1.1.getD v1.2.toNat default) || (l1Alive x0 v1.2 x2))) v1.2.toNat false)] [1, 2, 3, 6, 7, 8] [3, 20007] [] [pf (0 ≤ (v1.2 : Int) ∧ (v1.2 : Int) < ((x0.people.length : Nat) : Int))] [] [0, 4] (.next 0 [(30007, some 20007)] (D16j1 x0 x1 x2 v1 ((v1.1.set v1.2.toNat ((v1.1.getD v1.2.toNat default) || (l1Alive x0 v1.2 x2))).set v1.2.toNat false)))) (.next 0 [(30007, some 20007)] (D16j1 x0 x1 x2 v1 (v1.1.set v1.2.toNat ((v1.1.getD v1.2.toNat default) || (l1Alive x0 v1.2 x2))))))) (A16j1 x0 x1 x2 v1))) (r0 1 [6] [20007] (.co false 20007 v1.1.length (rowOf (cBool) v1.1) [lnP (rowOf (cBool) v1.1) x0.people.length v1.1.length] [] 0 (rt [(0, some 20007)] (C16 v1.1)))))
def A16 (x0 : Family) (x1 : Int) (x2 : Int) : Ann := .reg 2 [] [(1003, msC 15 (cBool) 1 ((x0.people.length : Nat) : Int) ((x0.people.length : Nat) : Int) x0.people.length (default : Bool) (rfl))] [1, 2, 3, 6, 7] [3, 15] [] [] [] [0] (r1 1 [1, 2, 3, 6, 7, 8] [3, 15] [pf (inR .i64 (((x0.people.length : Nat) : Int) - 1))] [0] (.loop ((List Bool) × Int) (D16b1 x0 x1 x2) [] [15] [(20007, some 15)] (D16b1 x0 x1 x2 ((List.replicate x0.people.length (default : Bool)), ((x0.people.length : Nat) : Int) - 1)) (A16b1 x0 x1 x2)))
theorem ok_spec_l10Part (x0 : Family) (x1 : Int) (x2 : Int) (hf : specIsFamily x0 = true) : FnT Try.prog 16 [.agg (cFamily false x0), .int .i64 x1, .int .i64 x2] (C16 (l10Part x0 x1 x2)) := by
  have aux : ∀ R, l10Part x0 x1 x2 = R → slim (C16 R) (A16 x0 x1 x2) [] := by
    intro R hR
    refine rg ⟨by (have h9 := fam_n hf; (try simp only [List.length_replicate, inR]); omega), trivial⟩ ?_
    refine rg ⟨by (have h9 := fam_n hf; (try simp only [List.length_replicate, inR]); omega), trivial⟩ ?_
    revert hR; refine lW (fun v => (-1 ≤ v.2 ∧ v.2 < x0.people.length) ∧ v.1.length = x0.people.length) (fun v => (v.2 + 1).toNat) (by (dsimp only; have h9 := fam_n hf; exact ⟨by omega, by simp⟩)) (Nat.lt_succ_self _) rfl fun m1 v1 F1 hI1 hM1 hR hK1 => ?_
    refine rg trivial ?_
    revert hR; refine cd (fun hc1 hR => ?_) fun hc1 hR => ?_
    ·
      refine rg ⟨by (have h9 := fam_n hf; have h8 := hI1.1; have h7 := hI1.2; simp only [decide_eq_true_eq] at hc1; (try simp only [inR, List.length_set]); omega), fun hg0 => ⟨by (have h9 := fam_n hf; (try simp only [List.length_replicate, inR]); omega), by (have h9 := fam_n hf; have h8 := hI1.1; have h7 := hI1.2; simp only [decide_eq_true_eq] at hc1; (try simp only [inR, List.length_set]); omega)⟩, by (have h9 := fam_n hf; have h8 := hI1.1; have h7 := hI1.2; simp only [decide_eq_true_eq] at hc1; (try simp only [inR, List.length_set]); omega), trivial⟩ ?_
      revert hR; refine jN (fun v => v.length = x0.people.length) (fun F101 hR hJ101 => ?_) (fun j1 hR hJ1 => ?_)
      ·
        refine rg trivial ?_
        revert hR; refine cd (fun hc2 hR => ?_) fun hc2 hR => ?_
        ·
          refine rg ⟨by (have h9 := fam_n hf; have h8 := hI1.1; have h7 := hI1.2; simp only [decide_eq_true_eq] at hc1; (try simp only [inR, List.length_set]); omega), by (have h9 := fam_n hf; have h8 := hI1.1; have h7 := hI1.2; simp only [decide_eq_true_eq] at hc1; (try simp only [inR, List.length_set]); omega), trivial⟩ ?_
          exact hJ101 ((v1.1.set v1.2.toNat ((v1.1.getD v1.2.toNat default) || (l1Alive x0 v1.2 x2))).set v1.2.toNat false) hR (by (have h9 := fam_n hf; have h8 := hI1.1; have h7 := hI1.2; simp only [decide_eq_true_eq] at hc1; (try simp only [inR, List.length_set]); omega))
        ·
          exact hJ101 (v1.1.set v1.2.toNat ((v1.1.getD v1.2.toNat default) || (l1Alive x0 v1.2 x2))) hR (by (have h9 := fam_n hf; have h8 := hI1.1; have h7 := hI1.2; simp only [decide_eq_true_eq] at hc1; (try simp only [inR, List.length_set]); omega))
      ·
        refine rg ⟨⟨by (have h9 := fam_n hf; (try simp only [List.length_replicate, inR]); omega), by (have h9 := fam_n hf; have h8 := hI1.1; have h7 := hI1.2; simp only [decide_eq_true_eq] at hc1; (try simp only [inR, List.length_set]); omega)⟩, trivial⟩ ?_
        have hp1 := l1Parents_rng x0 v1.2
        revert hR; refine lN (fun i v => v.length = x0.people.length) (by with_reducible assumption) rfl fun i2 v2 F2 hn2 hI2 hR hK2 => ?_
        refine rg trivial ?_
        refine ⟨fun hc3 => ?_, fun hc3 => ?_⟩
        · have hii2 : i2 < (l1Parents x0 v1.2).length := by have := of_decide_eq_true hc3; omega
          replace hR := loopN_step hR hii2
          refine rg ⟨by (intros; omega), trivial⟩ ?_
          refine rg ⟨by (have h9 := fam_n hf; have h8 := hI1.1; simp only [decide_eq_true_eq] at hc1; have h7 := parent_lt (isFamily_par x0 hf) (a := v1.2) (by omega) (getD_mem (d := (default : Int)) hii2); omega), by (have h9 := fam_n hf; have h8 := hI1.1; have h7 := hI1.2; simp only [decide_eq_true_eq] at hc1; (try simp only [inR, List.length_set]); omega), by (have h9 := fam_n hf; have h8 := hI1.1; simp only [decide_eq_true_eq] at hc1; have h7 := parent_lt (isFamily_par x0 hf) (a := v1.2) (by omega) (getD_mem (d := (default : Int)) hii2); omega), trivial⟩ ?_
          refine rg ⟨by (have h9 := fam_n hf; (try simp only [List.length_replicate, inR]); omega), trivial⟩ ?_
          exact hK2 (v2.set (((l1Parents x0 v1.2).getD i2 default).toNat) ((v2.getD (((l1Parents x0 v1.2).getD i2 default).toNat) default) || (v2.getD v1.2.toNat default))) hii2 (by (have h9 := fam_n hf; have h8 := hI1.1; have h7 := hI1.2; simp only [decide_eq_true_eq] at hc1; (try simp only [inR, List.length_set]); omega)) hR
        · obtain rfl : i2 = (l1Parents x0 v1.2).length := by have := of_decide_eq_false hc3; omega
          replace hR := loopN_end hR (Nat.lt_irrefl _)
          refine rg ⟨by (have h9 := fam_n hf; (try simp only [List.length_replicate, inR]); omega), trivial⟩ ?_
          exact hK1 (v2, v1.2 - 1) (by (have h9 := fam_n hf; have h8 := hI1.1; have h7 := hI1.2; simp only [decide_eq_true_eq] at hc1; (try simp only [inR, List.length_set]); omega)) (by (have h9 := fam_n hf; have h8 := hI1.1; have h7 := hI1.2; simp only [decide_eq_true_eq] at hc1; (try simp only [inR, List.length_set]); omega)) hR
    ·
      refine rg trivial ?_
      refine og (by (intros; omega)) ?_
      exact congrArg C16 hR
  exact Fn.go 76 Try.func16 (by kernel_rfl) (by kernel_rfl) (by simp [C16, Frs, FrsL, FrsB, rowOf, cInt, cBool, cStr, cSl, FrsL_app, cPerson, cUnion, cFamily, cestate, cShare]) (A16 x0 x1 x2) (by kernel_rfl) (aux _ rfl)
def k16 (x0 : Family) (x1 : Int) (x2 : Int) : Cl := (hres (C16 (l10Part x0 x1 x2)), k1 (ok_spec_l10Part x0 x1 x2))
end Go.Proofs.Ytmefknjcgdbceaa
