import Derived.Test.YtanfabaedopeiaaVR3
set_option maxHeartbeats 4000000
set_option linter.unusedSimpArgs false
set_option linter.unusedVariables false
namespace Go.Proofs.Ytanfabaedopeiaa
open Go Go.Lite Go.Proofs
def C195 (R : Int) : LV × List (Nat × BC) := (.int .i64 R, [])
def sexBefore (x0 : KinType) (x1 : Int) : Int := bif (decide (x1 = 0)) then (egoOf x0) else (stepSex ((x0.steps.getD ((x1 - 1).toNat) default).kind))
def A195 (x0 : KinType) (x1 : Int) : Ann := r0 1 [1, 2, 4] [2] (r0 1 [1, 2, 4, 6] [2] (cn (decide (x1 = 0)) (.reg 1 [] [(1, k135 x0)] [1, 2, 4] [2] [] [] [] [0] (rt [] (C195 (egoOf x0)))) (.reg 1 [] [(7, k136 ((x0.steps.getD ((x1 - 1).toNat) default).kind))] [4] [] [] [pf (inR .i64 (x1 - 1)), pf (0 ≤ (x1 - 1 : Int) ∧ (x1 - 1 : Int) < ((x0.steps.length : Nat) : Int))] [] [0, 4, 8] (rt [] (C195 (stepSex ((x0.steps.getD ((x1 - 1).toNat) default).kind)))))))
theorem ok_impl_sexBefore (x0 : KinType) (x1 : Int) (h0 : x0.steps.length ≤ 1048576) (hi : 0 ≤ x1 ∧ x1 ≤ x0.steps.length) : FnT Try.prog 195 [.agg (cKinType false x0), .int .i64 x1] (C195 (sexBefore x0 x1)) := by
  have aux : ∀ R, sexBefore x0 x1 = R → slim (C195 R) (A195 x0 x1) [] := by
    intro R hR
    refine rg trivial ?_
    refine rg trivial ?_
    revert hR; refine cd (fun hc1 hR => ?_) fun hc1 hR => ?_
    ·
      refine rg ⟨by trivial, trivial⟩ ?_
      exact congrArg C195 hR
    ·
      refine rg ⟨by ( intros; simp only [inR]; omega), by (simp only [decide_eq_false_iff_not] at hc1; (try simp only [inR]); omega), trivial, trivial⟩ ?_
      exact congrArg C195 hR
  exact Fn.go 17 Try.func195 (by kernel_rfl) (by kernel_rfl) (by simp [C195, Frs, FrsL]) (A195 x0 x1) (by kernel_rfl) (aux _ rfl)
def k195 (x0 : KinType) (x1 : Int) : Cl := (hres (C195 (sexBefore x0 x1)), k2 (ok_impl_sexBefore x0 x1))
def C216 (R : Bool) : LV × List (Nat × BC) := (.bool R, [])
def fitsAt (x0 : Rule) (x1 : KinType) (x2 : Int) : Bool := bif ((decide (x2 < 0)) || (decide ((((x1.steps.length : Nat) : Int) - ((x0.from0.length : Nat) : Int)) < x2))) then false else (loopN (fun i1 (v1 : Unit) next => bif ((!decide (((x1.steps.getD ((x2 + ((i1 : Nat) : Int)).toNat) default).kind) = ((x0.from0.getD i1 default).kind))) || ((!decide (((x0.from0.getD i1 default).age) = 0)) && (!decide (((x0.from0.getD i1 default).age) = ((x1.steps.getD ((x2 + ((i1 : Nat) : Int)).toNat) default).age))))) then false else (next ())) (fun (v1 : Unit) => bif ((!decide (x0.sex = 0)) && (!decide (x0.sex = (sexBefore x1 x2)))) then false else (((!decide (x0.place = 1)) || (decide (x2 = 0))) && ((!decide (x0.place = 2)) || (decide ((x2 + ((x0.from0.length : Nat) : Int)) = ((x1.steps.length : Nat) : Int)))))) x0.from0.length 0 ())
def D216b1 (x0 : Rule) (x1 : KinType) (x2 : Int) (i1 : Nat) (v1 : Unit) : Dl := ⟨[(28, .int .i64 ((i1 : Nat) : Int))], []⟩
def A216b1 (x0 : Rule) (x1 : KinType) (x2 : Int) (i1 : Nat) (v1 : Unit) : Ann := r0 1 [2, 3, 4, 6, 7, 26, 27, 28, 29] [3, 4] (cn (decide (((i1 : Nat) : Int) < ((x0.from0.length : Nat) : Int))) (.reg 3 [] [] [2, 3, 4, 6, 7, 26, 27, 28, 56] [3, 4] [!(!decide (((x1.steps.getD ((x2 + ((i1 : Nat) : Int)).toNat) default).kind) = ((x0.from0.getD i1 default).kind))), (!(!decide (((x1.steps.getD ((x2 + ((i1 : Nat) : Int)).toNat) default).kind) = ((x0.from0.getD i1 default).kind)))) && (!decide (((x0.from0.getD i1 default).age) = 0)), !decide (((x1.steps.getD ((x2 + ((i1 : Nat) : Int)).toNat) default).kind) = ((x0.from0.getD i1 default).kind))] [pf (0 ≤ (((i1 : Nat) : Int) : Int) ∧ (((i1 : Nat) : Int) : Int) < ((x0.from0.length : Nat) : Int)), pf (inR .i64 (x2 + ((i1 : Nat) : Int))), pf (0 ≤ (x2 + ((i1 : Nat) : Int) : Int) ∧ (x2 + ((i1 : Nat) : Int) : Int) < ((x1.steps.length : Nat) : Int)), gt (!(!decide (((x1.steps.getD ((x2 + ((i1 : Nat) : Int)).toNat) default).kind) = ((x0.from0.getD i1 default).kind)))) (gt (!decide (((x0.from0.getD i1 default).age) = 0)) (pf (((!(!decide (((x1.steps.getD ((x2 + ((i1 : Nat) : Int)).toNat) default).kind) = ((x0.from0.getD i1 default).kind)))) && (!decide (((x0.from0.getD i1 default).age) = 0))) = true)))] [] [0, 4, 8, 1, 1, 1, 5, 5, 5, 5, 1, 12, 10] (cn ((!decide (((x1.steps.getD ((x2 + ((i1 : Nat) : Int)).toNat) default).kind) = ((x0.from0.getD i1 default).kind))) || ((!decide (((x0.from0.getD i1 default).age) = 0)) && (!decide (((x0.from0.getD i1 default).age) = ((x1.steps.getD ((x2 + ((i1 : Nat) : Int)).toNat) default).age))))) (r0 1 [2, 3, 4, 6, 7, 26, 27, 28] [3, 4] (rt [] (C216 false))) (r1 1 [2, 3, 4, 6, 7, 26, 27, 28] [3, 4] [pf (inR .i64 (((i1 : Nat) : Int) + 1))] [0] (.next 0 [] (D216b1 x0 x1 x2 (i1 + 1) ()))))) (.reg 1 [] [(8, cg (!decide (x0.sex = 0)) (k195 x1 x2))] [2, 3, 4, 6, 7, 68] [3, 4] [!decide (x0.sex = 0)] [] [] [1, 1, 1, 0, 1, 1, 1] (cn ((!decide (x0.sex = 0)) && (!decide (x0.sex = (sexBefore x1 x2)))) (r0 1 [2, 3, 4, 6, 7] [3, 4] (rt [] (C216 false))) (.reg 1 [] [] [6] [] [!(!decide (x0.place = 1)), !decide (x0.place = 1), (!decide (x0.place = 1)) || (decide (x2 = 0)), ((!decide (x0.place = 1)) || (decide (x2 = 0))) && (!(!decide (x0.place = 2)))] [gt (((!decide (x0.place = 1)) || (decide (x2 = 0))) && (!(!decide (x0.place = 2)))) (pf (inR .i64 (x2 + ((x0.from0.length : Nat) : Int)))), gt ((!decide (x0.place = 1)) || (decide (x2 = 0))) (gf (!decide (x0.place = 2)) (pf ((((!decide (x0.place = 1)) || (decide (x2 = 0))) && (!(!decide (x0.place = 2)))) = true)))] [] [1, 6, 9, 9, 9, 13, 13, 0, 13, 13, 13, 13, 9, 4, 9] (rt [] (C216 (((!decide (x0.place = 1)) || (decide (x2 = 0))) && ((!decide (x0.place = 2)) || (decide ((x2 + ((x0.from0.length : Nat) : Int)) = ((x1.steps.length : Nat) : Int)))))))))))
def A216 (x0 : Rule) (x1 : KinType) (x2 : Int) : Ann := r0 2 [2, 3, 4, 6, 7] [3, 4] (.reg 1 [] [] [2, 3, 4, 6, 7, 24] [3, 4] [!(decide (x2 < 0)), decide (x2 < 0)] [gt (!(decide (x2 < 0))) (pf (inR .i64 (((x1.steps.length : Nat) : Int) - ((x0.from0.length : Nat) : Int))))] [] [1, 1, 1, 1, 0, 1, 1, 6] (cn ((decide (x2 < 0)) || (decide ((((x1.steps.length : Nat) : Int) - ((x0.from0.length : Nat) : Int)) < x2))) (r0 1 [2, 3, 4, 6, 7] [3, 4] (rt [] (C216 false))) (r0 1 [2, 3, 4, 6, 7, 26, 27, 28] [3, 4] (lp (D216b1 x0 x1 x2) [] [] [] (D216b1 x0 x1 x2 0 ()) (A216b1 x0 x1 x2)))))
theorem ok_impl_fitsAt (x0 : Rule) (x1 : KinType) (x2 : Int) (hr : x0.name.length ≤ 1048576 ∧ x0.from0.length ≤ 1048576 ∧ x0.to.length ≤ 1048576) (ht : x1.steps.length ≤ 1048576) : FnT Try.prog 216 [.agg (cRule false x0), .agg (cKinType false x1), .int .i64 x2] (C216 (fitsAt x0 x1 x2)) := by
  have aux : ∀ R, fitsAt x0 x1 x2 = R → slim (C216 R) (A216 x0 x1 x2) [] := by
    intro R hR
    refine rg trivial ?_
    refine rg ⟨by ( intros; simp only [inR]; omega), trivial⟩ ?_
    revert hR; refine cd (fun hc1 hR => ?_) fun hc1 hR => ?_
    ·
      refine rg trivial ?_
      exact congrArg C216 hR
    ·
      refine rg trivial ?_
      revert hR; refine lN (fun i v => True) (by trivial) rfl fun i1 v1 F1 hn1 hI1 hR hK1 => ?_
      refine rg trivial ?_
      refine ⟨fun hc2 => ?_, fun hc2 => ?_⟩
      · have hii1 : i1 < x0.from0.length := by have := of_decide_eq_true hc2; omega
        replace hR := loopN_step hR hii1
        refine rg ⟨by (intros; omega), by (simp only [Bool.or_eq_false_iff, decide_eq_false_iff_not] at hc1; (try simp only [inR]); omega), by (simp only [Bool.or_eq_false_iff, decide_eq_false_iff_not] at hc1; (try simp only [inR]); omega), by ((try clear hR hK1); intros; (try simp only [decide_eq_true_eq, decide_eq_false_iff_not, Bool.or_eq_true, Bool.and_eq_true, or_f_iff, not_f_iff, not_t_iff, Bool.not_eq_true', inR] at *); (repeat' apply And.intro) <;> (intros; omega)), trivial⟩ ?_
        revert hR; refine cd (fun hc3 hR => ?_) fun hc3 hR => ?_
        ·
          refine rg trivial ?_
          exact congrArg C216 hR
        ·
          refine rg ⟨by ( intros; simp only [inR]; omega), trivial⟩ ?_
          exact hK1 () hii1 (by trivial) hR
      · obtain rfl : i1 = x0.from0.length := by have := of_decide_eq_false hc2; omega
        replace hR := loopN_end hR (Nat.lt_irrefl _)
        refine rg ⟨fun hg0 => ⟨by trivial, by (simp only [Bool.or_eq_false_iff, decide_eq_false_iff_not] at hc1; (try simp only [inR]); omega)⟩, trivial⟩ ?_
        revert hR; refine cd (fun hc4 hR => ?_) fun hc4 hR => ?_
        ·
          refine rg trivial ?_
          exact congrArg C216 hR
        ·
          refine rg ⟨by (simp only [Bool.or_eq_false_iff, decide_eq_false_iff_not] at hc1; (try simp only [inR]); omega), by ((try clear hR hK1); intros; (try simp only [decide_eq_true_eq, decide_eq_false_iff_not, Bool.or_eq_true, Bool.and_eq_true, or_f_iff, not_f_iff, not_t_iff, Bool.not_eq_true', inR] at *); (repeat' apply And.intro) <;> (intros; omega)), trivial⟩ ?_
          exact congrArg C216 hR
  exact Fn.go 90 Try.func216 (by kernel_rfl) (by kernel_rfl) (by simp [C216, Frs, FrsL]) (A216 x0 x1 x2) (by kernel_rfl) (aux _ rfl)
def k216 (x0 : Rule) (x1 : KinType) (x2 : Int) : Cl := (hres (C216 (fitsAt x0 x1 x2)), k2 (ok_impl_fitsAt x0 x1 x2))
def C211 (R : Bool) : LV × List (Nat × BC) := (.bool R, [])
def l4Fits (x0 : Rule) (x1 : KinType) (x2 : Int) : Bool := bif ((decide (x2 < 0)) || (decide ((((x1.steps.length : Nat) : Int) - ((x0.from0.length : Nat) : Int)) < x2))) then false else (bif (((decide (x0.place = 1)) && (!decide (x2 = 0))) || ((decide (x0.place = 2)) && (!decide ((x2 + ((x0.from0.length : Nat) : Int)) = ((x1.steps.length : Nat) : Int))))) then false else (bif (decide (0 < x2)) then (bif ((!decide (x0.sex = 0)) && (!decide (x0.sex = (l3Sex ((x1.steps.getD ((x2 - 1).toNat) default).kind))))) then false else (loopN (fun i1 (v1 : Unit) next => bif ((!decide (((x0.from0.getD i1 default).kind) = ((x1.steps.getD ((x2 + ((i1 : Nat) : Int)).toNat) default).kind))) || ((!decide (((x0.from0.getD i1 default).age) = 0)) && (!decide (((x0.from0.getD i1 default).age) = ((x1.steps.getD ((x2 + ((i1 : Nat) : Int)).toNat) default).age))))) then false else (next ())) (fun (v1 : Unit) => true) x0.from0.length 0 ())) else (bif ((!decide (x0.sex = 0)) && (!decide (x0.sex = (l3Ego x1)))) then false else (loopN (fun i2 (v2 : Unit) next => bif ((!decide (((x0.from0.getD i2 default).kind) = ((x1.steps.getD ((x2 + ((i2 : Nat) : Int)).toNat) default).kind))) || ((!decide (((x0.from0.getD i2 default).age) = 0)) && (!decide (((x0.from0.getD i2 default).age) = ((x1.steps.getD ((x2 + ((i2 : Nat) : Int)).toNat) default).age))))) then false else (next ())) (fun (v2 : Unit) => true) x0.from0.length 0 ()))))
def D211b1 (x0 : Rule) (x1 : KinType) (x2 : Int) (i1 : Nat) (v1 : Unit) : Dl := ⟨[(71, .int .i64 ((i1 : Nat) : Int))], []⟩
def A211b1 (x0 : Rule) (x1 : KinType) (x2 : Int) (i1 : Nat) (v1 : Unit) : Ann := r0 1 [2, 4, 6, 69, 70, 71, 72] [4] (cn (decide (((i1 : Nat) : Int) < ((x0.from0.length : Nat) : Int))) (.reg 3 [] [] [2, 4, 6, 69, 70, 71, 99] [4] [!(!decide (((x0.from0.getD i1 default).kind) = ((x1.steps.getD ((x2 + ((i1 : Nat) : Int)).toNat) default).kind))), (!(!decide (((x0.from0.getD i1 default).kind) = ((x1.steps.getD ((x2 + ((i1 : Nat) : Int)).toNat) default).kind)))) && (!decide (((x0.from0.getD i1 default).age) = 0)), !decide (((x0.from0.getD i1 default).kind) = ((x1.steps.getD ((x2 + ((i1 : Nat) : Int)).toNat) default).kind))] [pf (0 ≤ (((i1 : Nat) : Int) : Int) ∧ (((i1 : Nat) : Int) : Int) < ((x0.from0.length : Nat) : Int)), pf (inR .i64 (x2 + ((i1 : Nat) : Int))), pf (0 ≤ (x2 + ((i1 : Nat) : Int) : Int) ∧ (x2 + ((i1 : Nat) : Int) : Int) < ((x1.steps.length : Nat) : Int)), gt (!(!decide (((x0.from0.getD i1 default).kind) = ((x1.steps.getD ((x2 + ((i1 : Nat) : Int)).toNat) default).kind)))) (gt (!decide (((x0.from0.getD i1 default).age) = 0)) (pf (((!(!decide (((x0.from0.getD i1 default).kind) = ((x1.steps.getD ((x2 + ((i1 : Nat) : Int)).toNat) default).kind)))) && (!decide (((x0.from0.getD i1 default).age) = 0))) = true)))] [] [0, 4, 8, 1, 1, 1, 5, 5, 5, 5, 1, 12, 10] (cn ((!decide (((x0.from0.getD i1 default).kind) = ((x1.steps.getD ((x2 + ((i1 : Nat) : Int)).toNat) default).kind))) || ((!decide (((x0.from0.getD i1 default).age) = 0)) && (!decide (((x0.from0.getD i1 default).age) = ((x1.steps.getD ((x2 + ((i1 : Nat) : Int)).toNat) default).age))))) (r0 1 [2, 4, 6, 69, 70, 71] [4] (rt [] (C211 false))) (r1 1 [2, 4, 6, 69, 70, 71] [4] [pf (inR .i64 (((i1 : Nat) : Int) + 1))] [0] (.next 0 [] (D211b1 x0 x1 x2 (i1 + 1) ()))))) (r0 1 [6] [] (rt [] (C211 true))))
def D211b2 (x0 : Rule) (x1 : KinType) (x2 : Int) (i2 : Nat) (v2 : Unit) : Dl := ⟨[(71, .int .i64 ((i2 : Nat) : Int))], []⟩
def A211b2 (x0 : Rule) (x1 : KinType) (x2 : Int) (i2 : Nat) (v2 : Unit) : Ann := r0 1 [2, 4, 6, 69, 70, 71, 72] [4] (cn (decide (((i2 : Nat) : Int) < ((x0.from0.length : Nat) : Int))) (.reg 3 [] [] [2, 4, 6, 69, 70, 71, 99] [4] [!(!decide (((x0.from0.getD i2 default).kind) = ((x1.steps.getD ((x2 + ((i2 : Nat) : Int)).toNat) default).kind))), (!(!decide (((x0.from0.getD i2 default).kind) = ((x1.steps.getD ((x2 + ((i2 : Nat) : Int)).toNat) default).kind)))) && (!decide (((x0.from0.getD i2 default).age) = 0)), !decide (((x0.from0.getD i2 default).kind) = ((x1.steps.getD ((x2 + ((i2 : Nat) : Int)).toNat) default).kind))] [pf (0 ≤ (((i2 : Nat) : Int) : Int) ∧ (((i2 : Nat) : Int) : Int) < ((x0.from0.length : Nat) : Int)), pf (inR .i64 (x2 + ((i2 : Nat) : Int))), pf (0 ≤ (x2 + ((i2 : Nat) : Int) : Int) ∧ (x2 + ((i2 : Nat) : Int) : Int) < ((x1.steps.length : Nat) : Int)), gt (!(!decide (((x0.from0.getD i2 default).kind) = ((x1.steps.getD ((x2 + ((i2 : Nat) : Int)).toNat) default).kind)))) (gt (!decide (((x0.from0.getD i2 default).age) = 0)) (pf (((!(!decide (((x0.from0.getD i2 default).kind) = ((x1.steps.getD ((x2 + ((i2 : Nat) : Int)).toNat) default).kind)))) && (!decide (((x0.from0.getD i2 default).age) = 0))) = true)))] [] [0, 4, 8, 1, 1, 1, 5, 5, 5, 5, 1, 12, 10] (cn ((!decide (((x0.from0.getD i2 default).kind) = ((x1.steps.getD ((x2 + ((i2 : Nat) : Int)).toNat) default).kind))) || ((!decide (((x0.from0.getD i2 default).age) = 0)) && (!decide (((x0.from0.getD i2 default).age) = ((x1.steps.getD ((x2 + ((i2 : Nat) : Int)).toNat) default).age))))) (r0 1 [2, 4, 6, 69, 70, 71] [4] (rt [] (C211 false))) (r1 1 [2, 4, 6, 69, 70, 71] [4] [pf (inR .i64 (((i2 : Nat) : Int) + 1))] [0] (.next 0 [] (D211b2 x0 x1 x2 (i2 + 1) ()))))) (r0 1 [6] [] (rt [] (C211 true))))
def A211 (x0 : Rule) (x1 : KinType) (x2 : Int) : Ann := r0 2 [2, 3, 4, 6, 7] [3, 4] (.reg 1 [] [] [2, 3, 4, 6, 7, 25] [3, 4] [!(decide (x2 < 0)), decide (x2 < 0)] [gt (!(decide (x2 < 0))) (pf (inR .i64 (((x1.steps.length : Nat) : Int) - ((x0.from0.length : Nat) : Int))))] [] [1, 1, 1, 1, 0, 1, 1, 6] (cn ((decide (x2 < 0)) || (decide ((((x1.steps.length : Nat) : Int) - ((x0.from0.length : Nat) : Int)) < x2))) (r0 1 [2, 3, 4, 6, 7] [3, 4] (rt [] (C211 false))) (.reg 1 [] [] [2, 3, 4, 6, 46] [3, 4] [decide (x0.place = 1), !((decide (x0.place = 1)) && (!decide (x2 = 0))), (!((decide (x0.place = 1)) && (!decide (x2 = 0)))) && (decide (x0.place = 2)), (decide (x0.place = 1)) && (!decide (x2 = 0))] [gt ((!((decide (x0.place = 1)) && (!decide (x2 = 0)))) && (decide (x0.place = 2))) (pf (inR .i64 (x2 + ((x0.from0.length : Nat) : Int)))), gt (!((decide (x0.place = 1)) && (!decide (x2 = 0)))) (gt (decide (x0.place = 2)) (pf (((!((decide (x0.place = 1)) && (!decide (x2 = 0)))) && (decide (x0.place = 2))) = true)))] [] [1, 1, 5, 5, 5, 9, 9, 0, 9, 9, 9, 9, 5, 4, 14] (cn (((decide (x0.place = 1)) && (!decide (x2 = 0))) || ((decide (x0.place = 2)) && (!decide ((x2 + ((x0.from0.length : Nat) : Int)) = ((x1.steps.length : Nat) : Int))))) (r0 1 [2, 3, 4, 6] [3, 4] (rt [] (C211 false))) (.reg 1 [] [(1, k254 x1)] [2, 3, 4, 6, 8] [3, 4] [] [] [] [0] (r0 1 [2, 3, 4, 6, 8, 50] [3, 4] (cn (decide (0 < x2)) (.reg 1 [] [(7, k157 ((x1.steps.getD ((x2 - 1).toNat) default).kind))] [2, 3, 4, 6, 8] [3, 4] [] [pf (inR .i64 (x2 - 1)), pf (0 ≤ (x2 - 1 : Int) ∧ (x2 - 1 : Int) < ((x1.steps.length : Nat) : Int))] [] [0, 4, 8] (.reg 1 [] [] [2, 3, 4, 6, 67] [3, 4] [!decide (x0.sex = 0)] [] [] [1, 1, 1, 1] (cn ((!decide (x0.sex = 0)) && (!decide (x0.sex = (l3Sex ((x1.steps.getD ((x2 - 1).toNat) default).kind))))) (r0 1 [2, 3, 4, 6] [3, 4] (rt [] (C211 false))) (r0 1 [2, 4, 6, 69, 70, 71] [4] (lp (D211b1 x0 x1 x2) [] [] [] (D211b1 x0 x1 x2 0 ()) (A211b1 x0 x1 x2)))))) (.reg 1 [] [] [2, 3, 4, 6, 67] [3, 4] [!decide (x0.sex = 0)] [] [] [1, 1, 1, 1] (cn ((!decide (x0.sex = 0)) && (!decide (x0.sex = (l3Ego x1)))) (r0 1 [2, 3, 4, 6] [3, 4] (rt [] (C211 false))) (r0 1 [2, 4, 6, 69, 70, 71] [4] (lp (D211b2 x0 x1 x2) [] [] [] (D211b2 x0 x1 x2 0 ()) (A211b2 x0 x1 x2))))))))))))
theorem ok_spec_l4Fits (x0 : Rule) (x1 : KinType) (x2 : Int) (hr : x0.name.length ≤ 1048576 ∧ x0.from0.length ≤ 1048576 ∧ x0.to.length ≤ 1048576) (ht : x1.steps.length ≤ 1048576) : FnT Try.prog 211 [.agg (cRule false x0), .agg (cKinType false x1), .int .i64 x2] (C211 (l4Fits x0 x1 x2)) := by
  have aux : ∀ R, l4Fits x0 x1 x2 = R → slim (C211 R) (A211 x0 x1 x2) [] := by
    intro R hR
    refine rg trivial ?_
    refine rg ⟨by ( intros; simp only [inR]; omega), trivial⟩ ?_
    revert hR; refine cd (fun hc1 hR => ?_) fun hc1 hR => ?_
    ·
      refine rg trivial ?_
      exact congrArg C211 hR
    ·
      refine rg ⟨by (simp only [Bool.or_eq_false_iff, decide_eq_false_iff_not] at hc1; (try simp only [inR]); omega), by ((try clear hR); intros; (try simp only [decide_eq_true_eq, decide_eq_false_iff_not, Bool.or_eq_true, Bool.and_eq_true, or_f_iff, not_f_iff, not_t_iff, Bool.not_eq_true', inR] at *); (repeat' apply And.intro) <;> (intros; omega)), trivial⟩ ?_
      revert hR; refine cd (fun hc2 hR => ?_) fun hc2 hR => ?_
      ·
        refine rg trivial ?_
        exact congrArg C211 hR
      ·
        refine rg ⟨by trivial, trivial⟩ ?_
        refine rg trivial ?_
        revert hR; refine cd (fun hc3 hR => ?_) fun hc3 hR => ?_
        ·
          refine rg ⟨by (simp only [Bool.or_eq_false_iff, decide_eq_false_iff_not] at hc1; (try simp only [inR]); omega), by (simp only [Bool.or_eq_false_iff, decide_eq_false_iff_not, decide_eq_true_eq] at *; (try simp only [inR]); omega), trivial, trivial⟩ ?_
          refine rg trivial ?_
          revert hR; refine cd (fun hc4 hR => ?_) fun hc4 hR => ?_
          ·
            refine rg trivial ?_
            exact congrArg C211 hR
          ·
            refine rg trivial ?_
            revert hR; refine lN (fun i v => True) (by trivial) rfl fun i1 v1 F1 hn1 hI1 hR hK1 => ?_
            refine rg trivial ?_
            refine ⟨fun hc5 => ?_, fun hc5 => ?_⟩
            · have hii1 : i1 < x0.from0.length := by have := of_decide_eq_true hc5; omega
              replace hR := loopN_step hR hii1
              refine rg ⟨by (intros; omega), by (simp only [Bool.or_eq_false_iff, decide_eq_false_iff_not] at hc1; (try simp only [inR]); omega), by (simp only [Bool.or_eq_false_iff, decide_eq_false_iff_not] at hc1; (try simp only [inR]); omega), by ((try clear hR hK1); intros; (try simp only [decide_eq_true_eq, decide_eq_false_iff_not, Bool.or_eq_true, Bool.and_eq_true, or_f_iff, not_f_iff, not_t_iff, Bool.not_eq_true', inR] at *); (repeat' apply And.intro) <;> (intros; omega)), trivial⟩ ?_
              revert hR; refine cd (fun hc6 hR => ?_) fun hc6 hR => ?_
              ·
                refine rg trivial ?_
                exact congrArg C211 hR
              ·
                refine rg ⟨by ( intros; simp only [inR]; omega), trivial⟩ ?_
                exact hK1 () hii1 (by trivial) hR
            · obtain rfl : i1 = x0.from0.length := by have := of_decide_eq_false hc5; omega
              replace hR := loopN_end hR (Nat.lt_irrefl _)
              refine rg trivial ?_
              exact congrArg C211 hR
        ·
          refine rg trivial ?_
          revert hR; refine cd (fun hc7 hR => ?_) fun hc7 hR => ?_
          ·
            refine rg trivial ?_
            exact congrArg C211 hR
          ·
            refine rg trivial ?_
            revert hR; refine lN (fun i v => True) (by trivial) rfl fun i2 v2 F2 hn2 hI2 hR hK2 => ?_
            refine rg trivial ?_
            refine ⟨fun hc8 => ?_, fun hc8 => ?_⟩
            · have hii2 : i2 < x0.from0.length := by have := of_decide_eq_true hc8; omega
              replace hR := loopN_step hR hii2
              refine rg ⟨by (intros; omega), by (simp only [Bool.or_eq_false_iff, decide_eq_false_iff_not] at hc1; (try simp only [inR]); omega), by (simp only [Bool.or_eq_false_iff, decide_eq_false_iff_not] at hc1; (try simp only [inR]); omega), by ((try clear hR hK2); intros; (try simp only [decide_eq_true_eq, decide_eq_false_iff_not, Bool.or_eq_true, Bool.and_eq_true, or_f_iff, not_f_iff, not_t_iff, Bool.not_eq_true', inR] at *); (repeat' apply And.intro) <;> (intros; omega)), trivial⟩ ?_
              revert hR; refine cd (fun hc9 hR => ?_) fun hc9 hR => ?_
              ·
                refine rg trivial ?_
                exact congrArg C211 hR
              ·
                refine rg ⟨by ( intros; simp only [inR]; omega), trivial⟩ ?_
                exact hK2 () hii2 (by trivial) hR
            · obtain rfl : i2 = x0.from0.length := by have := of_decide_eq_false hc8; omega
              replace hR := loopN_end hR (Nat.lt_irrefl _)
              refine rg trivial ?_
              exact congrArg C211 hR
  exact Fn.go 101 Try.func211 (by kernel_rfl) (by kernel_rfl) (by simp [C211, Frs, FrsL]) (A211 x0 x1 x2) (by kernel_rfl) (aux _ rfl)
def k211 (x0 : Rule) (x1 : KinType) (x2 : Int) : Cl := (hres (C211 (l4Fits x0 x1 x2)), k2 (ok_spec_l4Fits x0 x1 x2))
def C217 (R : KinType) : LV × List (Nat × BC) := (.agg [.int .i64 R.ego, .own 0], [(0, .arr 2 R.steps.length (rowOf (cStep true) R.steps))])
def replacedAt (x0 : Rule) (x1 : KinType) (x2 : Int) : KinType := (KinType.mk (egoOf x1) ((((x1.steps.drop 0).take (x2.toNat - 0)) ++ x0.to) ++ ((x1.steps.drop ((x2 + ((x0.from0.length : Nat) : Int)).toNat)).take (x1.steps.length - ((x2 + ((x0.from0.length : Nat) : Int)).toNat)))))
def A217 (x0 : Rule) (x1 : KinType) (x2 : Int) : Ann := .reg 6 [] [(1001, k135 x1), (2005, slC 16 (cStep false) x1.steps.length (0) (x2) 0 (x2.toNat - 0) x1.steps rfl rfl), (2006, apN 17 (cStep true) 16 ((x1.steps.drop 0).take (x2.toNat - 0))), (3004, apC 23 (cStep true) 16 ((x1.steps.drop 0).take (x2.toNat - 0)) x0.to), (4009, slC 34 (cStep false) x1.steps.length (x2 + ((x0.from0.length : Nat) : Int)) (((x1.steps.length : Nat) : Int)) ((x2 + ((x0.from0.length : Nat) : Int)).toNat) (x1.steps.length - ((x2 + ((x0.from0.length : Nat) : Int)).toNat)) x1.steps rfl rfl), (4010, apC 35 (cStep true) 16 (((x1.steps.drop 0).take (x2.toNat - 0)) ++ x0.to) ((x1.steps.drop ((x2 + ((x0.from0.length : Nat) : Int)).toNat)).take (x1.steps.length - ((x2 + ((x0.from0.length : Nat) : Int)).toNat))))] [6] [6, 35] [] [pf (inR .i64 (x2 + ((x0.from0.length : Nat) : Int)))] [] [4, 8, 12, 16, 0, 20, 24] (rt [(0, some 35)] (C217 (KinType.mk (egoOf x1) ((((x1.steps.drop 0).take (x2.toNat - 0)) ++ x0.to) ++ ((x1.steps.drop ((x2 + ((x0.from0.length : Nat) : Int)).toNat)).take (x1.steps.length - ((x2 + ((x0.from0.length : Nat) : Int)).toNat)))))))
theorem ok_impl_replacedAt (x0 : Rule) (x1 : KinType) (x2 : Int) (hr : x0.name.length ≤ 1048576 ∧ x0.from0.length ≤ 1048576 ∧ x0.to.length ≤ 1048576) (ht : x1.steps.length ≤ 1048576) (hi : 0 ≤ x2 ∧ x2 + x0.from0.length ≤ x1.steps.length) : FnT Try.prog 217 [.agg (cRule false x0), .agg (cKinType false x1), .int .i64 x2] (C217 (replacedAt x0 x1 x2)) := by
  have aux : ∀ R, replacedAt x0 x1 x2 = R → slim (C217 R) (A217 x0 x1 x2) [] := by
    intro R hR
    refine rg ⟨by ( intros; simp only [inR]; omega), by trivial, by (intros; omega), by (simp; omega), by (simp; omega), by (intros; omega), by (simp; omega), trivial⟩ ?_
    exact congrArg C217 hR
  exact Fn.go 38 Try.func217 (by kernel_rfl) (by kernel_rfl) (by simp [C217, Frs, FrsL, FrsB, rowOf, cInt, cBool, cStr, cSl, FrsL_app, cPerson, cUnion, cFamily, cStep, cKinType, cRule]) (A217 x0 x1 x2) (by kernel_rfl) (aux _ rfl)
def k217 (x0 : Rule) (x1 : KinType) (x2 : Int) : Cl := (hres (C217 (replacedAt x0 x1 x2)), k3 (ok_impl_replacedAt x0 x1 x2))
def C212 (R : KinType) : LV × List (Nat × BC) := (.agg [.int .i64 R.ego, .own 0], [(0, .arr 2 R.steps.length (rowOf (cStep true) R.steps))])
def l4Replace (x0 : Rule) (x1 : KinType) (x2 : Int) : KinType := (KinType.mk (l3Ego x1) ((((x1.steps.drop 0).take (x2.toNat - 0)) ++ x0.to) ++ ((x1.steps.drop ((x2 + ((x0.from0.length : Nat) : Int)).toNat)).take (x1.steps.length - ((x2 + ((x0.from0.length : Nat) : Int)).toNat)))))
def A212 (x0 : Rule) (x1 : KinType) (x2 : Int) : Ann := .reg 6 [] [(1001, k254 x1), (2005, slC 16 (cStep false) x1.steps.length (0) (x2) 0 (x2.toNat - 0) x1.steps rfl rfl), (2006, apN 17 (cStep true) 16 ((x1.steps.drop 0).take (x2.toNat - 0))), (3004, apC 23 (cStep true) 16 ((x1.steps.drop 0).take (x2.toNat - 0)) x0.to), (4009, slC 34 (cStep false) x1.steps.length (x2 + ((x0.from0.length : Nat) : Int)) (((x1.steps.length : Nat) : Int)) ((x2 + ((x0.from0.length : Nat) : Int)).toNat) (x1.steps.length - ((x2 + ((x0.from0.length : Nat) : Int)).toNat)) x1.steps rfl rfl), (4010, apC 35 (cStep true) 16 (((x1.steps.drop 0).take (x2.toNat - 0)) ++ x0.to) ((x1.steps.drop ((x2 + ((x0.from0.length : Nat) : Int)).toNat)).take (x1.steps.length - ((x2 + ((x0.from0.length : Nat) : Int)).toNat))))] [6] [6, 35] [] [pf (inR .i64 (x2 + ((x0.from0.length : Nat) : Int)))] [] [4, 8, 12, 16, 0, 20, 24] (rt [(0, some 35)] (C212 (KinType.mk (l3Ego x1) ((((x1.steps.drop 0).take (x2.toNat - 0)) ++ x0.to) ++ ((x1.steps.drop ((x2 + ((x0.from0.length : Nat) : Int)).toNat)).take (x1.steps.length - ((x2 + ((x0.from0.length : Nat) : Int)).toNat)))))))
theorem ok_spec_l4Replace (x0 : Rule) (x1 : KinType) (x2 : Int) (hr : x0.name.length ≤ 1048576 ∧ x0.from0.length ≤ 1048576 ∧ x0.to.length ≤ 1048576) (ht : x1.steps.length ≤ 1048576) (hi : 0 ≤ x2 ∧ x2 + x0.from0.length ≤ x1.steps.length) : FnT Try.prog 212 [.agg (cRule false x0), .agg (cKinType false x1), .int .i64 x2] (C212 (l4Replace x0 x1 x2)) := by
  have aux : ∀ R, l4Replace x0 x1 x2 = R → slim (C212 R) (A212 x0 x1 x2) [] := by
    intro R hR
    refine rg ⟨by ( intros; simp only [inR]; omega), by trivial, by (intros; omega), by (simp; omega), by (simp; omega), by (intros; omega), by (simp; omega), trivial⟩ ?_
    exact congrArg C212 hR
  exact Fn.go 38 Try.func212 (by kernel_rfl) (by kernel_rfl) (by simp [C212, Frs, FrsL, FrsB, rowOf, cInt, cBool, cStr, cSl, FrsL_app, cPerson, cUnion, cFamily, cStep, cKinType, cRule]) (A212 x0 x1 x2) (by kernel_rfl) (aux _ rfl)
def k212 (x0 : Rule) (x1 : KinType) (x2 : Int) : Cl := (hres (C212 (l4Replace x0 x1 x2)), k3 (ok_spec_l4Replace x0 x1 x2))
end Go.Proofs.Ytanfabaedopeiaa
