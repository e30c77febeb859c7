import Derived.Test.YtkkijpibajigfabDoorM91
set_option maxHeartbeats 4000000
set_option linter.unusedSimpArgs false
set_option linter.unusedVariables false
namespace Go.Proofs.YtkkijpibajigfabDoor
open Go Go.Lite Go.Proofs
def C15 (R : Family × Bool) : LV × List (Nat × BC) := (.tup [.agg [.own 0, .own 1], .bool R.2], [(0, .arr 6 R.1.people.length (rowOf (cPerson true) R.1.people)), (1, .arr 4 R.1.unions.length (rowOf (cUnion true) R.1.unions))])
def specBuild (x0 : List Event) : Family × Bool := loopN (fun i1 (v1 : (List Person) × (List Union)) next => bif ((decide (0 < ((i1 : Nat) : Int))) && (decide (((x0.getD i1 default).year) < ((x0.getD ((((i1 : Nat) : Int) - 1).toNat) default).year)))) then ((Family.mk ([] : List Person) ([] : List Union)), false) else (bif (!((l11Do (Family.mk v1.1 v1.2) (x0.getD i1 default)).2)) then ((Family.mk ([] : List Person) ([] : List Union)), false) else (next (((l11Do (Family.mk v1.1 v1.2) (x0.getD i1 default)).1).people, ((l11Do (Family.mk v1.1 v1.2) (x0.getD i1 default)).1).unions)))) (fun (v1 : (List Person) × (List Union)) => bif (!(specIsFamily (Family.mk v1.1 v1.2))) then ((Family.mk ([] : List Person) ([] : List Union)), false) else ((Family.mk v1.1 v1.2), true)) x0.length 0 (([] : List Person), ([] : List Union))
def D15b1 (x0 : List Event) (i1 : Nat) (v1 : (List Person) × (List Union)) : Dl := ⟨[(12, .int .i64 ((i1 : Nat) : Int))], [(30400, .arr 6 v1.1.length (rowOf (cPerson true) v1.1)), (30401, .arr 4 v1.2.length (rowOf (cUnion true) v1.2)), (4, .var [.own 30400, .own 30401])]⟩
def A15b1 (x0 : List Event) (i1 : Nat) (v1 : (List Person) × (List Union)) : Ann := r0 1 [0, 2, 3, 4, 10, 11, 12, 13] [2, 4, 30400, 30401] (cn (decide (((i1 : Nat) : Int) < ((x0.length : Nat) : Int))) (r1 1 [0, 2, 3, 4, 5, 6, 10, 11, 12] [2, 4, 6, 30400, 30401] [pf (0 ≤ (((i1 : Nat) : Int) : Int) ∧ (((i1 : Nat) : Int) : Int) < ((x0.length : Nat) : Int))] [0] (.reg 1 [] [] [0, 2, 3, 4, 6, 10, 11, 12, 29] [2, 4, 6, 30400, 30401] [decide (0 < ((i1 : Nat) : Int))] [gt (decide (0 < ((i1 : Nat) : Int))) (pf (inR .i64 (((i1 : Nat) : Int) - 1))), gt (decide (0 < ((i1 : Nat) : Int))) (pf (0 ≤ (((i1 : Nat) : Int) - 1 : Int) ∧ (((i1 : Nat) : Int) - 1 : Int) < ((x0.length : Nat) : Int)))] [] [1, 1, 0, 1, 1, 4, 1, 1, 1, 1, 1] (cn ((decide (0 < ((i1 : Nat) : Int))) && (decide (((x0.getD i1 default).year) < ((x0.getD ((((i1 : Nat) : Int) - 1).toNat) default).year)))) (r0 1 [0, 2, 3, 4, 6, 10, 11, 12] [2, 4, 6, 30400, 30401] (rt [(0, none), (1, none)] (C15 ((Family.mk ([] : List Person) ([] : List Union)), false)))) (.reg 1 [] [(2, k31 34 [30400, 30401] (Family.mk v1.1 v1.2) (x0.getD i1 default))] [0, 2, 3, 4, 7, 8, 10, 11, 12] [2, 4, 7, 1034, 2034] [] [] [] [0] (r0 1 [0, 2, 3, 4, 7, 10, 11, 12, 38] [2, 4, 7, 1034, 2034] (cn (!((l11Do (Family.mk v1.1 v1.2) (x0.getD i1 default)).2)) (r0 1 [0, 2, 3, 4, 7, 10, 11, 12] [2, 4, 7, 1034, 2034] (rt [(0, none), (1, none)] (C15 ((Family.mk ([] : List Person) ([] : List Union)), false)))) (r0 1 [0, 2, 3, 4, 10, 11, 12] [2, 4, 1034, 2034] (r1 1 [0, 2, 3, 4, 10, 11, 12] [2, 4, 1034, 2034] [pf (inR .i64 (((i1 : Nat) : Int) + 1))] [0] (.next 0 [(30400, some 1034), (30401, some 2034)] (D15b1 x0 (i1 + 1) (((l11Do (Family.mk v1.1 v1.2) (x0.getD i1 default)).1).people, ((l11Do (Family.mk v1.1 v1.2) (x0.getD i1 default)).1).unions))))))))))) (.reg 1 [] [(1, k32 (Family.mk v1.1 v1.2))] [2, 3, 4, 44] [2, 4, 30400, 30401] [] [] [] [0] (cn (!(specIsFamily (Family.mk v1.1 v1.2))) (r0 1 [2, 3, 4] [2, 4, 30400, 30401] (rt [(0, none), (1, none)] (C15 ((Family.mk ([] : List Person) ([] : List Union)), false)))) (r0 1 [2, 3] [2, 30400, 30401] (rt [(0, some 30400), (1, some 30401)] (C15 ((Family.mk v1.1 v1.2), true)))))))
def A15 (x0 : List Event) : Ann := r0 2 [0, 2, 3, 4] [2, 4] (r0 1 [0, 2, 3, 4, 10, 11, 12] [2, 4] (lp (D15b1 x0) [] [] [(30400, none), (30401, none)] (D15b1 x0 0 (([] : List Person), ([] : List Union))) (A15b1 x0)))
theorem ok_spec_BuildFamily (x0 : List Event) (hx : x0.length ≤ 1048576) (hy : ∀ e ∈ x0, e.name.length ≤ 1048576) : FnT Tryd.prog 15 [.ro false 6 x0.length (rowOf (cEvent false) x0)] (C15 (specBuild x0)) := by
  have aux : ∀ R, specBuild x0 = R → slim (C15 R) (A15 x0) [] := by
    intro R hR
    refine rg trivial ?_
    refine rg trivial ?_
    revert hR; refine lN (fun i v => v.1.length ≤ i ∧ v.2.length ≤ i ∧ ∀ q ∈ v.1, q.name.length ≤ 1048576) (by trivial) rfl fun i1 v1 F1 hn1 hI1 hR hK1 => ?_
    refine rg trivial ?_
    refine ⟨fun hc1 => ?_, fun hc1 => ?_⟩
    · have hii1 : i1 < x0.length := by have := of_decide_eq_true hc1; omega
      replace hR := loopN_step hR hii1
      refine rg ⟨by (intros; omega), trivial⟩ ?_
      refine rg ⟨by ( intros; simp only [inR]; omega), by ((try clear hR hK1); intros; (try simp only [decide_eq_true_eq, decide_eq_false_iff_not, Bool.or_eq_true, Bool.and_eq_true, or_f_iff, not_f_iff, not_t_iff, Bool.not_eq_true', inR] at *); (repeat' apply And.intro) <;> (intros; omega)), trivial⟩ ?_
      revert hR; refine cd (fun hc2 hR => ?_) fun hc2 hR => ?_
      ·
        refine rg trivial ?_
        exact congrArg C15 hR
      ·
        refine rg ⟨⟨by ( intros; simp only [inR]; omega), by ( intros; simp only [inR]; omega)⟩, trivial⟩ ?_
        refine rg trivial ?_
        revert hR; refine cd (fun hc3 hR => ?_) fun hc3 hR => ?_
        ·
          refine rg trivial ?_
          exact congrArg C15 hR
        ·
          refine rg trivial ?_
          refine rg ⟨by ( intros; simp only [inR]; omega), trivial⟩ ?_
          exact hK1 (((l11Do (Family.mk v1.1 v1.2) (x0.getD i1 default)).1).people, ((l11Do (Family.mk v1.1 v1.2) (x0.getD i1 default)).1).unions) hii1 (by (exact l11_step hy hii1 hI1 hc3)) hR
    · obtain rfl : i1 = x0.length := by have := of_decide_eq_false hc1; omega
      replace hR := loopN_end hR (Nat.lt_irrefl _)
      refine rg ⟨⟨by ( intros; simp only [inR]; omega), by ( intros; simp only [inR]; omega), by (have h9 := hI1.2.2; (try simp only [Int.toNat_natCast]); first | assumption | exact h9 _ (by assumption))⟩, trivial⟩ ?_
      revert hR; refine cd (fun hc4 hR => ?_) fun hc4 hR => ?_
      ·
        refine rg trivial ?_
        exact congrArg C15 hR
      ·
        refine rg trivial ?_
        exact congrArg C15 hR
  exact Fn.go 47 Tryd.func15 (by kernel_rfl) (by kernel_rfl) (by simp [C15, Frs, FrsL, FrsB, rowOf, cInt, cBool, cStr, cSl, FrsL_app, cPerson, cUnion, cFamily, cEvent]) (A15 x0) (by kernel_rfl) (aux _ rfl)
def k15 (x0 : List Event) : Cl := (hres (C15 (specBuild x0)), k2 (ok_spec_BuildFamily x0))
def C19 (R : Family × Bool) : LV × List (Nat × BC) := (.tup [.agg [.own 0, .own 1], .bool R.2], [(0, .arr 6 R.1.people.length (rowOf (cPerson true) R.1.people)), (1, .arr 4 R.1.unions.length (rowOf (cUnion true) R.1.unions))])
def implBuild (x0 : List Event) : Family × Bool := bif (decide (200 < ((x0.length : Nat) : Int))) then ((Family.mk ([] : List Person) ([] : List Union)), false) else (loopN (fun i1 (v1 : (List Person) × (List Union)) next => bif (!((decide (0 < ((i1 : Nat) : Int))) && (decide (((x0.getD i1 default).year) < ((x0.getD ((((i1 : Nat) : Int) - 1).toNat) default).year))))) then (bif (((decide (0 < ((i1 : Nat) : Int))) && (decide (((x0.getD i1 default).year) < ((x0.getD ((((i1 : Nat) : Int) - 1).toNat) default).year)))) || (!((happen (Family.mk v1.1 v1.2) (x0.getD i1 default)).1))) then ((Family.mk ([] : List Person) ([] : List Union)), false) else (next ((happen (Family.mk v1.1 v1.2) (x0.getD i1 default)).2.1, (happen (Family.mk v1.1 v1.2) (x0.getD i1 default)).2.2))) else (bif (((decide (0 < ((i1 : Nat) : Int))) && (decide (((x0.getD i1 default).year) < ((x0.getD ((((i1 : Nat) : Int) - 1).toNat) default).year)))) || (!true)) then ((Family.mk ([] : List Person) ([] : List Union)), false) else (next (v1.1, v1.2)))) (fun (v1 : (List Person) × (List Union)) => bif (!(implIsFamily (Family.mk v1.1 v1.2))) then ((Family.mk ([] : List Person) ([] : List Union)), false) else ((Family.mk v1.1 v1.2), true)) x0.length 0 (([] : List Person), ([] : List Union)))
def D19b1 (x0 : List Event) (i1 : Nat) (v1 : (List Person) × (List Union)) : Dl := ⟨[(13, .int .i64 ((i1 : Nat) : Int))], [(30400, .arr 6 v1.1.length (rowOf (cPerson true) v1.1)), (30401, .arr 4 v1.2.length (rowOf (cUnion true) v1.2)), (4, .var [.own 30400, .own 30401])]⟩
def A19b1 (x0 : List Event) (i1 : Nat) (v1 : (List Person) × (List Union)) : Ann := r0 1 [0, 2, 3, 4, 11, 12, 13, 14] [2, 4, 30400, 30401] (cn (decide (((i1 : Nat) : Int) < ((x0.length : Nat) : Int))) (.split (!((decide (0 < ((i1 : Nat) : Int))) && (decide (((x0.getD i1 default).year) < ((x0.getD ((((i1 : Nat) : Int) - 1).toNat) default).year))))) (.reg 2 [] [(1015, cT (k33 33 [4, 30400, 30401] (Family.mk v1.1 v1.2) (x0.getD i1 default)))] [0, 2, 3, 4, 11, 12, 13, 35] [2, 4, 1033, 2033] [decide (0 < ((i1 : Nat) : Int)), (decide (0 < ((i1 : Nat) : Int))) && (decide (((x0.getD i1 default).year) < ((x0.getD ((((i1 : Nat) : Int) - 1).toNat) default).year)))] [pf (0 ≤ (((i1 : Nat) : Int) : Int) ∧ (((i1 : Nat) : Int) : Int) < ((x0.length : Nat) : Int)), gt (decide (0 < ((i1 : Nat) : Int))) (pf (inR .i64 (((i1 : Nat) : Int) - 1))), gt (decide (0 < ((i1 : Nat) : Int))) (pf (0 ≤ (((i1 : Nat) : Int) - 1 : Int) ∧ (((i1 : Nat) : Int) - 1 : Int) < ((x0.length : Nat) : Int))), pf ((!((decide (0 < ((i1 : Nat) : Int))) && (decide (((x0.getD i1 default).year) < ((x0.getD ((((i1 : Nat) : Int) - 1).toNat) default).year))))) = true)] [] [0, 1, 1, 4, 1, 1, 8, 1, 1, 1, 1, 1, 12, 12, 16, 6] (cn (((decide (0 < ((i1 : Nat) : Int))) && (decide (((x0.getD i1 default).year) < ((x0.getD ((((i1 : Nat) : Int) - 1).toNat) default).year)))) || (!((happen (Family.mk v1.1 v1.2) (x0.getD i1 default)).1))) (r0 1 [0, 2, 3, 4, 11, 12, 13] [2, 4, 1033, 2033] (rt [(0, none), (1, none)] (C19 ((Family.mk ([] : List Person) ([] : List Union)), false)))) (r1 1 [0, 2, 3, 4, 11, 12, 13] [2, 4, 1033, 2033] [pf (inR .i64 (((i1 : Nat) : Int) + 1))] [0] (.next 0 [(30400, some 1033), (30401, some 2033)] (D19b1 x0 (i1 + 1) ((happen (Family.mk v1.1 v1.2) (x0.getD i1 default)).2.1, (happen (Family.mk v1.1 v1.2) (x0.getD i1 default)).2.2)))))) (.reg 2 [(1015, .gF)] [] [0, 2, 3, 4, 11, 12, 13, 35] [2, 4, 30400, 30401] [decide (0 < ((i1 : Nat) : Int)), (decide (0 < ((i1 : Nat) : Int))) && (decide (((x0.getD i1 default).year) < ((x0.getD ((((i1 : Nat) : Int) - 1).toNat) default).year)))] [pf (0 ≤ (((i1 : Nat) : Int) : Int) ∧ (((i1 : Nat) : Int) : Int) < ((x0.length : Nat) : Int)), gt (decide (0 < ((i1 : Nat) : Int))) (pf (inR .i64 (((i1 : Nat) : Int) - 1))), gt (decide (0 < ((i1 : Nat) : Int))) (pf (0 ≤ (((i1 : Nat) : Int) - 1 : Int) ∧ (((i1 : Nat) : Int) - 1 : Int) < ((x0.length : Nat) : Int))), pf ((!((decide (0 < ((i1 : Nat) : Int))) && (decide (((x0.getD i1 default).year) < ((x0.getD ((((i1 : Nat) : Int) - 1).toNat) default).year))))) = false), gt (!((decide (0 < ((i1 : Nat) : Int))) && (decide (((x0.getD i1 default).year) < ((x0.getD ((((i1 : Nat) : Int) - 1).toNat) default).year))))) (pf (false = true))] [] [0, 1, 1, 4, 1, 1, 8, 1, 1, 1, 1, 1, 12, 16, 6] (cn (((decide (0 < ((i1 : Nat) : Int))) && (decide (((x0.getD i1 default).year) < ((x0.getD ((((i1 : Nat) : Int) - 1).toNat) default).year)))) || (!true)) (r0 1 [0, 2, 3, 4, 11, 12, 13] [2, 4, 30400, 30401] (rt [(0, none), (1, none)] (C19 ((Family.mk ([] : List Person) ([] : List Union)), false)))) (r1 1 [0, 2, 3, 4, 11, 12, 13] [2, 4, 30400, 30401] [pf (inR .i64 (((i1 : Nat) : Int) + 1))] [0] (.next 0 [(30400, some 30400), (30401, some 30401)] (D19b1 x0 (i1 + 1) (v1.1, v1.2))))))) (.reg 1 [] [(1, k34 (Family.mk v1.1 v1.2))] [2, 3, 4, 40] [2, 4, 30400, 30401] [] [] [] [0] (cn (!(implIsFamily (Family.mk v1.1 v1.2))) (r0 1 [2, 3, 4] [2, 4, 30400, 30401] (rt [(0, none), (1, none)] (C19 ((Family.mk ([] : List Person) ([] : List Union)), false)))) (r0 1 [2, 3] [2, 30400, 30401] (rt [(0, some 30400), (1, some 30401)] (C19 ((Family.mk v1.1 v1.2), true)))))))
def A19 (x0 : List Event) : Ann := r0 2 [0, 2, 3, 4] [2, 4] (r0 1 [0, 2, 3, 4, 9] [2, 4] (cn (decide (200 < ((x0.length : Nat) : Int))) (r0 1 [0, 2, 3, 4] [2, 4] (rt [(0, none), (1, none)] (C19 ((Family.mk ([] : List Person) ([] : List Union)), false)))) (r0 1 [0, 2, 3, 4, 11, 12, 13] [2, 4] (lp (D19b1 x0) [] [] [(30400, none), (30401, none)] (D19b1 x0 0 (([] : List Person), ([] : List Union))) (A19b1 x0)))))
theorem ok_impl_BuildFamily (x0 : List Event) (hx : x0.length ≤ 1048576) (hy : ∀ e ∈ x0, e.name.length ≤ 1048576) : FnT Tryd.prog 19 [.ro false 6 x0.length (rowOf (cEvent false) x0)] (C19 (implBuild x0)) := by
  have aux : ∀ R, implBuild x0 = R → slim (C19 R) (A19 x0) [] := by
    intro R hR
    refine rg trivial ?_
    refine rg trivial ?_
    revert hR; refine cd (fun hc1 hR => ?_) fun hc1 hR => ?_
    ·
      refine rg trivial ?_
      exact congrArg C19 hR
    ·
      refine rg trivial ?_
      revert hR; refine lN (fun i v => v.1.length ≤ i ∧ v.2.length ≤ i ∧ ∀ q ∈ v.1, q.name.length ≤ 1048576) (by trivial) rfl fun i1 v1 F1 hn1 hI1 hR hK1 => ?_
      refine rg trivial ?_
      refine ⟨fun hc2 => ?_, fun hc2 => ?_⟩
      · have hii1 : i1 < x0.length := by have := of_decide_eq_true hc2; omega
        replace hR := loopN_step hR hii1
        revert hR; refine cd (fun hs3 hR => ?_) fun hs3 hR => ?_
        ·
          refine rg ⟨by (intros; omega), by ( intros; simp only [inR]; omega), by ((try clear hR hK1); intros; (try simp only [decide_eq_true_eq, decide_eq_false_iff_not, Bool.or_eq_true, Bool.and_eq_true, or_f_iff, not_f_iff, not_t_iff, Bool.not_eq_true', inR] at *); (repeat' apply And.intro) <;> (intros; omega)), by trivial, ⟨by ( intros; simp only [inR]; omega), by ( intros; simp only [inR]; omega)⟩, trivial⟩ ?_
          revert hR; refine cd (fun hc4 hR => ?_) fun hc4 hR => ?_
          ·
            refine rg trivial ?_
            exact congrArg C19 hR
          ·
            refine rg ⟨by ( intros; simp only [inR]; omega), trivial⟩ ?_
            exact hK1 ((happen (Family.mk v1.1 v1.2) (x0.getD i1 default)).2.1, (happen (Family.mk v1.1 v1.2) (x0.getD i1 default)).2.2) hii1 (by (exact happen_step hy hii1 hI1)) hR
        ·
          refine rg ⟨by (intros; omega), by ( intros; simp only [inR]; omega), by ((try clear hR hK1); intros; (try simp only [decide_eq_true_eq, decide_eq_false_iff_not, Bool.or_eq_true, Bool.and_eq_true, or_f_iff, not_f_iff, not_t_iff, Bool.not_eq_true', inR] at *); (repeat' apply And.intro) <;> (intros; omega)), by trivial, by ((try clear hR hK1); intros; (try simp only [decide_eq_true_eq, decide_eq_false_iff_not, Bool.or_eq_true, Bool.and_eq_true, or_f_iff, not_f_iff, not_t_iff, Bool.not_eq_true', inR] at *); (repeat' apply And.intro) <;> (simp_all [inR]; done)), trivial⟩ ?_
          revert hR; refine cd (fun hc5 hR => ?_) fun hc5 hR => ?_
          ·
            refine rg trivial ?_
            exact congrArg C19 hR
          ·
            refine rg ⟨by ( intros; simp only [inR]; omega), trivial⟩ ?_
            exact hK1 (v1.1, v1.2) hii1 (by ((try clear hR hK1); intros; (try simp only [decide_eq_true_eq, decide_eq_false_iff_not, Bool.or_eq_true, Bool.and_eq_true, or_f_iff, not_f_iff, not_t_iff, Bool.not_eq_true', inR] at *); (repeat' apply And.intro) <;> (first | (intros; omega) | (have h9 := hI1.2.2; (try simp only [Int.toNat_natCast]); first | assumption | exact h9 _ (by assumption))))) hR
      · obtain rfl : i1 = x0.length := by have := of_decide_eq_false hc2; omega
        replace hR := loopN_end hR (Nat.lt_irrefl _)
        refine rg ⟨⟨by ( intros; simp only [inR]; omega), by ( intros; simp only [inR]; omega), by (have h9 := hI1.2.2; (try simp only [Int.toNat_natCast]); first | assumption | exact h9 _ (by assumption))⟩, trivial⟩ ?_
        revert hR; refine cd (fun hc6 hR => ?_) fun hc6 hR => ?_
        ·
          refine rg trivial ?_
          exact congrArg C19 hR
        ·
          refine rg trivial ?_
          exact congrArg C19 hR
  exact Fn.go 43 Tryd.func19 (by kernel_rfl) (by kernel_rfl) (by simp [C19, Frs, FrsL, FrsB, rowOf, cInt, cBool, cStr, cSl, FrsL_app, cPerson, cUnion, cFamily, cEvent]) (A19 x0) (by kernel_rfl) (aux _ rfl)
def k19 (x0 : List Event) : Cl := (hres (C19 (implBuild x0)), k2 (ok_impl_BuildFamily x0))
end Go.Proofs.YtkkijpibajigfabDoor
