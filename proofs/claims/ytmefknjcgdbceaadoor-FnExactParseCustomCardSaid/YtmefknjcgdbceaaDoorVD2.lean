import Derived.Test.YtmefknjcgdbceaaDoorM170
set_option maxHeartbeats 4000000
set_option linter.unusedSimpArgs false
set_option linter.unusedVariables false
namespace Go.Proofs.YtmefknjcgdbceaaDoor
open Go Go.Lite Go.Proofs
def C9 (R : Custom × Bool) : LV × List (Nat × BC) := (.tup [.agg [.int .i64 R.1.prefer, .bool R.1.youngest, .bool R.1.represent], .bool R.2], [])
def implParse (x0 : List UInt8) : Custom × Bool := loopW (fun (v1 : Int) nx1 => bif (decide (v1 ≤ 4)) then (loopN (fun i2 (v2 : Unit) nx2 => loopN (fun i3 (v3 : Unit) next => bif ((implFormat (Custom.mk v1 ([false, true].getD i2 default) ([false, true].getD i3 default))) == x0) then ((Custom.mk v1 ([false, true].getD i2 default) ([false, true].getD i3 default)), true) else (next ())) (fun (v3 : Unit) => nx2 ()) 2 0 ()) (fun (v2 : Unit) => nx1 (v1 + 1)) 2 0 ()) else ((Custom.mk 0 false false), false)) (((5 : Int) - 0).toNat + 1) 0
def D9b1 (x0 : List UInt8) (v1 : Int) : Dl := ⟨[(4, .int .i64 v1)], []⟩
def D9b2 (x0 : List UInt8) (v1 : Int) (i2 : Nat) (v2 : Unit) : Dl := ⟨[(16, .int .i64 ((i2 : Nat) : Int))], []⟩
def D9b3 (x0 : List UInt8) (v1 : Int) (i2 : Nat) (v2 : Unit) (i3 : Nat) (v3 : Unit) : Dl := ⟨[(22, .int .i64 ((i3 : Nat) : Int))], []⟩
def A9b3 (x0 : List UInt8) (v1 : Int) (i2 : Nat) (v2 : Unit) (i3 : Nat) (v3 : Unit) : Ann := r0 1 [0, 2, 3, 4, 6, 14, 15, 16, 20, 21, 22, 23] [2, 14, 20] (cn (decide (((i3 : Nat) : Int) < 2)) (.reg 3 [] [(2001, k7 (Custom.mk v1 ([false, true].getD i2 default) ([false, true].getD i3 default)))] [0, 2, 3, 4, 6, 9, 14, 15, 16, 20, 21, 22, 33] [2, 9, 14, 20] [] [pf (0 ≤ (((i3 : Nat) : Int) : Int) ∧ (((i3 : Nat) : Int) : Int) < ((2 : Nat) : Int))] [] [0, 4] (cn ((implFormat (Custom.mk v1 ([false, true].getD i2 default) ([false, true].getD i3 default))) == x0) (r0 1 [0, 2, 3, 4, 6, 14, 15, 16, 20, 21, 22] [2, 14, 20] (rt [] (C9 ((Custom.mk v1 ([false, true].getD i2 default) ([false, true].getD i3 default)), true)))) (r1 1 [0, 2, 3, 4, 6, 14, 15, 16, 20, 21, 22] [2, 14, 20] [pf (inR .i64 (((i3 : Nat) : Int) + 1))] [0] (.next 0 [] (D9b3 x0 v1 i2 v2 (i3 + 1) ()))))) (r1 1 [0, 2, 3, 4, 14, 15, 16] [2, 14] [pf (inR .i64 (((i2 : Nat) : Int) + 1))] [0] (.next 1 [] (D9b2 x0 v1 (i2 + 1) ()))))
def A9b2 (x0 : List UInt8) (v1 : Int) (i2 : Nat) (v2 : Unit) : Ann := r0 1 [0, 2, 3, 4, 14, 15, 16, 17] [2, 14] (cn (decide (((i2 : Nat) : Int) < 2)) (.reg 2 [] [(1000, bsC 20 (cBool) ([false, true] : List Bool))] [0, 2, 3, 4, 6, 14, 15, 16, 20, 21, 22] [2, 14, 20] [] [pf (0 ≤ (((i2 : Nat) : Int) : Int) ∧ (((i2 : Nat) : Int) : Int) < ((2 : Nat) : Int))] [] [0, 4] (lp (D9b3 x0 v1 i2 v2) [] [] [] (D9b3 x0 v1 i2 v2 0 ()) (A9b3 x0 v1 i2 v2))) (r1 1 [0, 2, 3, 4] [2] [pf (inR .i64 (v1 + 1))] [0] (.next 1 [] (D9b1 x0 (v1 + 1)))))
def A9b1 (x0 : List UInt8) (v1 : Int) : Ann := r0 1 [0, 2, 3, 4, 11] [2] (cn (decide (v1 ≤ 4)) (.reg 1 [] [(0, bsC 14 (cBool) ([false, true] : List Bool))] [0, 2, 3, 4, 14, 15, 16] [2, 14] [] [] [] [0] (lp (D9b2 x0 v1) [] [] [] (D9b2 x0 v1 0 ()) (A9b2 x0 v1))) (r0 1 [2, 3] [2] (rt [] (C9 ((Custom.mk 0 false false), false)))))
def A9 (x0 : List UInt8) : Ann := r0 1 [0, 2, 3] [2] (r0 1 [0, 2, 3, 4] [2] (.loop Int (D9b1 x0) [] [] [] (D9b1 x0 0) (A9b1 x0)))
theorem ok_impl_ParseCustom (x0 : List UInt8) : FnT Tryd.prog 9 [.str x0] (C9 (implParse x0)) := by
  have aux : ∀ R, implParse x0 = R → slim (C9 R) (A9 x0) [] := by
    intro R hR
    refine rg trivial ?_
    refine rg trivial ?_
    revert hR; refine lW (fun v => 0 ≤ v ∧ v ≤ 5) (fun v => ((5 : Int) - v).toNat) (by first | exact True.intro | with_reducible assumption | (intros; omega) | ( intros; simp only [inR]; omega) | ((try clear hR); intros; (try simp only [decide_eq_true_eq, decide_eq_false_iff_not, Bool.or_eq_true, Bool.and_eq_true, or_f_iff, not_f_iff, not_t_iff, Bool.not_eq_true', inR] at *); (repeat' apply And.intro) <;> (first | (intros; omega)))) (Nat.lt_succ_self _) rfl fun m1 v1 F1 hI1 hM1 hR hK1 => ?_
    refine rg trivial ?_
    revert hR; refine cd (fun hc1 hR => ?_) fun hc1 hR => ?_
    ·
      refine rg ⟨trivial, trivial⟩ ?_
      revert hR; refine lN (fun i v => True) (by first | exact True.intro | with_reducible assumption | (intros; omega) | ( intros; simp only [inR]; omega) | ((try clear hR hK1); intros; (try simp only [decide_eq_true_eq, decide_eq_false_iff_not, Bool.or_eq_true, Bool.and_eq_true, or_f_iff, not_f_iff, not_t_iff, Bool.not_eq_true', inR] at *); (repeat' apply And.intro) <;> (first | (intros; omega)))) rfl fun i2 v2 F2 hn2 hI2 hR hK2 => ?_
      refine rg trivial ?_
      refine ⟨fun hc2 => ?_, fun hc2 => ?_⟩
      · have hii2 : i2 < 2 := by have := of_decide_eq_true hc2; omega
        replace hR := loopN_step hR hii2
        refine rg ⟨by first | exact True.intro | with_reducible assumption | (intros; omega) | ( intros; simp only [inR]; omega) | ((try clear hR hK1 hK2); intros; (try simp only [decide_eq_true_eq, decide_eq_false_iff_not, Bool.or_eq_true, Bool.and_eq_true, or_f_iff, not_f_iff, not_t_iff, Bool.not_eq_true', inR] at *); (repeat' apply And.intro) <;> (first | (intros; omega))), trivial, trivial⟩ ?_
        revert hR; refine lN (fun i v => True) (by first | exact True.intro | with_reducible assumption | (intros; omega) | ( intros; simp only [inR]; omega) | ((try clear hR hK1 hK2); intros; (try simp only [decide_eq_true_eq, decide_eq_false_iff_not, Bool.or_eq_true, Bool.and_eq_true, or_f_iff, not_f_iff, not_t_iff, Bool.not_eq_true', inR] at *); (repeat' apply And.intro) <;> (first | (intros; omega)))) rfl fun i3 v3 F3 hn3 hI3 hR hK3 => ?_
        refine rg trivial ?_
        refine ⟨fun hc3 => ?_, fun hc3 => ?_⟩
        · have hii3 : i3 < 2 := by have := of_decide_eq_true hc3; omega
          replace hR := loopN_step hR hii3
          refine rg ⟨by first | exact True.intro | with_reducible assumption | (intros; omega) | ( intros; simp only [inR]; omega) | ((try clear hR hK1 hK2 hK3); intros; (try simp only [decide_eq_true_eq, decide_eq_false_iff_not, Bool.or_eq_true, Bool.and_eq_true, or_f_iff, not_f_iff, not_t_iff, Bool.not_eq_true', inR] at *); (repeat' apply And.intro) <;> (first | (intros; omega))), trivial, trivial⟩ ?_
          revert hR; refine cd (fun hc4 hR => ?_) fun hc4 hR => ?_
          ·
            refine rg trivial ?_
            exact congrArg C9 hR
          ·
            refine rg ⟨by first | exact True.intro | with_reducible assumption | (intros; omega) | ( intros; simp only [inR]; omega) | ((try clear hR hK1 hK2 hK3); intros; (try simp only [decide_eq_true_eq, decide_eq_false_iff_not, Bool.or_eq_true, Bool.and_eq_true, or_f_iff, not_f_iff, not_t_iff, Bool.not_eq_true', inR] at *); (repeat' apply And.intro) <;> (first | (intros; omega))), trivial⟩ ?_
            exact hK3 () hii3 (by first | exact True.intro | with_reducible assumption | (intros; omega) | ( intros; simp only [inR]; omega) | ((try clear hR hK1 hK2 hK3); intros; (try simp only [decide_eq_true_eq, decide_eq_false_iff_not, Bool.or_eq_true, Bool.and_eq_true, or_f_iff, not_f_iff, not_t_iff, Bool.not_eq_true', inR] at *); (repeat' apply And.intro) <;> (first | (intros; omega)))) hR
        · obtain rfl : i3 = 2 := by have := of_decide_eq_false hc3; omega
          replace hR := loopN_end hR (Nat.lt_irrefl _)
          refine rg ⟨by first | exact True.intro | with_reducible assumption | (intros; omega) | ( intros; simp only [inR]; omega) | ((try clear hR hK1 hK2 hK3); intros; (try simp only [decide_eq_true_eq, decide_eq_false_iff_not, Bool.or_eq_true, Bool.and_eq_true, or_f_iff, not_f_iff, not_t_iff, Bool.not_eq_true', inR] at *); (repeat' apply And.intro) <;> (first | (intros; omega))), trivial⟩ ?_
          exact hK2 () hii2 (by first | exact True.intro | with_reducible assumption | (intros; omega) | ( intros; simp only [inR]; omega) | ((try clear hR hK1 hK2 hK3); intros; (try simp only [decide_eq_true_eq, decide_eq_false_iff_not, Bool.or_eq_true, Bool.and_eq_true, or_f_iff, not_f_iff, not_t_iff, Bool.not_eq_true', inR] at *); (repeat' apply And.intro) <;> (first | (intros; omega)))) hR
      · obtain rfl : i2 = 2 := by have := of_decide_eq_false hc2; omega
        replace hR := loopN_end hR (Nat.lt_irrefl _)
        refine rg ⟨by first | exact True.intro | with_reducible assumption | (intros; omega) | ( intros; simp only [inR]; omega) | ((try clear hR hK1 hK2); intros; (try simp only [decide_eq_true_eq, decide_eq_false_iff_not, Bool.or_eq_true, Bool.and_eq_true, or_f_iff, not_f_iff, not_t_iff, Bool.not_eq_true', inR] at *); (repeat' apply And.intro) <;> (first | (intros; omega))), trivial⟩ ?_
        exact hK1 (v1 + 1) (by first | exact True.intro | with_reducible assumption | (intros; omega) | ( intros; simp only [inR]; omega) | ((try clear hR hK1 hK2); intros; (try simp only [decide_eq_true_eq, decide_eq_false_iff_not, Bool.or_eq_true, Bool.and_eq_true, or_f_iff, not_f_iff, not_t_iff, Bool.not_eq_true', inR] at *); (repeat' apply And.intro) <;> (first | (intros; omega)))) (by first | exact True.intro | with_reducible assumption | (intros; omega) | ( intros; simp only [inR]; omega) | ((try clear hR hK1 hK2); intros; (try simp only [decide_eq_true_eq, decide_eq_false_iff_not, Bool.or_eq_true, Bool.and_eq_true, or_f_iff, not_f_iff, not_t_iff, Bool.not_eq_true', inR] at *); (repeat' apply And.intro) <;> (first | (intros; omega)))) hR
    ·
      refine rg trivial ?_
      exact congrArg C9 hR
  exact Fn.go 38 Tryd.func9 (by kernel_rfl) (by kernel_rfl) (by simp [C9, Frs, FrsL]) (A9 x0) (by kernel_rfl) (aux _ rfl)
def k9 (x0 : List UInt8) : Cl := (hres (C9 (implParse x0)), k0 (ok_impl_ParseCustom x0))
def C8 (R : Custom × Bool) : LV × List (Nat × BC) := (.tup [.agg [.int .i64 R.1.prefer, .bool R.1.youngest, .bool R.1.represent], .bool R.2], [])
def specParse (x0 : List UInt8) : Custom × Bool := loopW (fun (v1 : Int) nx1 => bif (decide (v1 ≤ 4)) then (loopN (fun i2 (v2 : Unit) next => bif ((specFormat (Custom.mk v1 (decide ((((i2 : Nat) : Int).tmod 2) = 1)) (decide (1 < ((i2 : Nat) : Int))))) == x0) then ((Custom.mk v1 (decide ((((i2 : Nat) : Int).tmod 2) = 1)) (decide (1 < ((i2 : Nat) : Int)))), true) else (next ())) (fun (v2 : Unit) => nx1 (v1 + 1)) 4 0 ()) else ((Custom.mk 0 false false), false)) (((5 : Int) - 0).toNat + 1) 0
def D8b1 (x0 : List UInt8) (v1 : Int) : Dl := ⟨[(4, .int .i64 v1)], []⟩
def D8b2 (x0 : List UInt8) (v1 : Int) (i2 : Nat) (v2 : Unit) : Dl := ⟨[(5, .int .i64 ((i2 : Nat) : Int))], []⟩
def A8b2 (x0 : List UInt8) (v1 : Int) (i2 : Nat) (v2 : Unit) : Ann := r0 1 [0, 2, 3, 4, 5, 12] [2] (cn (decide (((i2 : Nat) : Int) < 4)) (.reg 2 [] [(1001, k5 (Custom.mk v1 (decide ((((i2 : Nat) : Int).tmod 2) = 1)) (decide (1 < ((i2 : Nat) : Int)))))] [0, 2, 3, 4, 5, 6, 25] [2, 6] [] [pf ((2 : Int) ≠ 0)] [] [0, 4] (cn ((specFormat (Custom.mk v1 (decide ((((i2 : Nat) : Int).tmod 2) = 1)) (decide (1 < ((i2 : Nat) : Int))))) == x0) (r0 1 [0, 2, 3, 4, 5] [2] (rt [] (C8 ((Custom.mk v1 (decide ((((i2 : Nat) : Int).tmod 2) = 1)) (decide (1 < ((i2 : Nat) : Int)))), true)))) (r1 1 [0, 2, 3, 4, 5] [2] [pf (inR .i64 (((i2 : Nat) : Int) + 1))] [0] (.next 0 [] (D8b2 x0 v1 (i2 + 1) ()))))) (r1 1 [0, 2, 3, 4] [2] [pf (inR .i64 (v1 + 1))] [0] (.next 1 [] (D8b1 x0 (v1 + 1)))))
def A8b1 (x0 : List UInt8) (v1 : Int) : Ann := r0 1 [0, 2, 3, 4, 8] [2] (cn (decide (v1 ≤ 4)) (r0 1 [0, 2, 3, 4, 5] [2] (lp (D8b2 x0 v1) [] [] [] (D8b2 x0 v1 0 ()) (A8b2 x0 v1))) (r0 1 [2, 3] [2] (rt [] (C8 ((Custom.mk 0 false false), false)))))
def A8 (x0 : List UInt8) : Ann := r0 1 [0, 2, 3] [2] (r0 1 [0, 2, 3, 4] [2] (.loop Int (D8b1 x0) [] [] [] (D8b1 x0 0) (A8b1 x0)))
theorem ok_spec_ParseCustom (x0 : List UInt8) : FnT Tryd.prog 8 [.str x0] (C8 (specParse x0)) := by
  have aux : ∀ R, specParse x0 = R → slim (C8 R) (A8 x0) [] := by
    intro R hR
    refine rg trivial ?_
    refine rg trivial ?_
    revert hR; refine lW (fun v => 0 ≤ v ∧ v ≤ 5) (fun v => ((5 : Int) - v).toNat) (by first | exact True.intro | with_reducible assumption | (intros; omega) | ( intros; simp only [inR]; omega) | ((try clear hR); intros; (try simp only [decide_eq_true_eq, decide_eq_false_iff_not, Bool.or_eq_true, Bool.and_eq_true, or_f_iff, not_f_iff, not_t_iff, Bool.not_eq_true', inR] at *); (repeat' apply And.intro) <;> (first | (intros; omega)))) (Nat.lt_succ_self _) rfl fun m1 v1 F1 hI1 hM1 hR hK1 => ?_
    refine rg trivial ?_
    revert hR; refine cd (fun hc1 hR => ?_) fun hc1 hR => ?_
    ·
      refine rg trivial ?_
      revert hR; refine lN (fun i v => True) (by first | exact True.intro | with_reducible assumption | (intros; omega) | ( intros; simp only [inR]; omega) | ((try clear hR hK1); intros; (try simp only [decide_eq_true_eq, decide_eq_false_iff_not, Bool.or_eq_true, Bool.and_eq_true, or_f_iff, not_f_iff, not_t_iff, Bool.not_eq_true', inR] at *); (repeat' apply And.intro) <;> (first | (intros; omega)))) rfl fun i2 v2 F2 hn2 hI2 hR hK2 => ?_
      refine rg trivial ?_
      refine ⟨fun hc2 => ?_, fun hc2 => ?_⟩
      · have hii2 : i2 < 4 := by have := of_decide_eq_true hc2; omega
        replace hR := loopN_step hR hii2
        refine rg ⟨by first | exact True.intro | with_reducible assumption | (intros; omega) | ( intros; simp only [inR]; omega) | ((try clear hR hK1 hK2); intros; (try simp only [decide_eq_true_eq, decide_eq_false_iff_not, Bool.or_eq_true, Bool.and_eq_true, or_f_iff, not_f_iff, not_t_iff, Bool.not_eq_true', inR] at *); (repeat' apply And.intro) <;> (first | (intros; omega))), trivial, trivial⟩ ?_
        revert hR; refine cd (fun hc3 hR => ?_) fun hc3 hR => ?_
        ·
          refine rg trivial ?_
          exact congrArg C8 hR
        ·
          refine rg ⟨by first | exact True.intro | with_reducible assumption | (intros; omega) | ( intros; simp only [inR]; omega) | ((try clear hR hK1 hK2); intros; (try simp only [decide_eq_true_eq, decide_eq_false_iff_not, Bool.or_eq_true, Bool.and_eq_true, or_f_iff, not_f_iff, not_t_iff, Bool.not_eq_true', inR] at *); (repeat' apply And.intro) <;> (first | (intros; omega))), trivial⟩ ?_
          exact hK2 () hii2 (by first | exact True.intro | with_reducible assumption | (intros; omega) | ( intros; simp only [inR]; omega) | ((try clear hR hK1 hK2); intros; (try simp only [decide_eq_true_eq, decide_eq_false_iff_not, Bool.or_eq_true, Bool.and_eq_true, or_f_iff, not_f_iff, not_t_iff, Bool.not_eq_true', inR] at *); (repeat' apply And.intro) <;> (first | (intros; omega)))) hR
      · obtain rfl : i2 = 4 := by have := of_decide_eq_false hc2; omega
        replace hR := loopN_end hR (Nat.lt_irrefl _)
        refine rg ⟨by first | exact True.intro | with_reducible assumption | (intros; omega) | ( intros; simp only [inR]; omega) | ((try clear hR hK1 hK2); intros; (try simp only [decide_eq_true_eq, decide_eq_false_iff_not, Bool.or_eq_true, Bool.and_eq_true, or_f_iff, not_f_iff, not_t_iff, Bool.not_eq_true', inR] at *); (repeat' apply And.intro) <;> (first | (intros; omega))), trivial⟩ ?_
        exact hK1 (v1 + 1) (by first | exact True.intro | with_reducible assumption | (intros; omega) | ( intros; simp only [inR]; omega) | ((try clear hR hK1 hK2); intros; (try simp only [decide_eq_true_eq, decide_eq_false_iff_not, Bool.or_eq_true, Bool.and_eq_true, or_f_iff, not_f_iff, not_t_iff, Bool.not_eq_true', inR] at *); (repeat' apply And.intro) <;> (first | (intros; omega)))) (by first | exact True.intro | with_reducible assumption | (intros; omega) | ( intros; simp only [inR]; omega) | ((try clear hR hK1 hK2); intros; (try simp only [decide_eq_true_eq, decide_eq_false_iff_not, Bool.or_eq_true, Bool.and_eq_true, or_f_iff, not_f_iff, not_t_iff, Bool.not_eq_true', inR] at *); (repeat' apply And.intro) <;> (first | (intros; omega)))) hR
    ·
      refine rg trivial ?_
      exact congrArg C8 hR
  exact Fn.go 28 Tryd.func8 (by kernel_rfl) (by kernel_rfl) (by simp [C8, Frs, FrsL]) (A8 x0) (by kernel_rfl) (aux _ rfl)
def k8 (x0 : List UInt8) : Cl := (hres (C8 (specParse x0)), k0 (ok_spec_ParseCustom x0))
end Go.Proofs.YtmefknjcgdbceaaDoor
