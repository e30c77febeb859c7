import Derived.Test.YtanfabaedopeiaaM61
set_option maxHeartbeats 4000000
set_option linter.unusedSimpArgs false
set_option linter.unusedVariables false
namespace Go.Proofs.Ytanfabaedopeiaa
open Go Go.Lite Go.Proofs
structure Step where
  kind : Int
  age : Int
  deriving Inhabited
def cStep (fr : Bool) (x : Step) : List LV := cInt .i64 x.kind ++ cInt .i64 x.age

structure KinType where
  ego : Int
  steps : List Step
  deriving Inhabited
def cKinType (fr : Bool) (x : KinType) : List LV := cInt .i64 x.ego ++ cSl fr 2 (cStep fr) x.steps

def C136 (R : Int) : LV × List (Nat × BC) := (.int .i64 R, [])
def stepSex (x0 : Int) : Int := bif (decide ((x0.tmod 2) = 1)) then 1 else 2
def A136 (x0 : Int) : Ann := r0 1 [0, 2] [] (r1 1 [2, 5] [] [pf ((2 : Int) ≠ 0)] [0] (cn (decide ((x0.tmod 2) = 1)) (r0 1 [2] [] (rt [] (C136 1))) (r0 1 [2] [] (rt [] (C136 2)))))
theorem ok_impl_stepSex (x0 : Int) : FnT Try.prog 136 [.int .i64 x0] (C136 (stepSex x0)) := by
  have aux : ∀ R, stepSex x0 = R → slim (C136 R) (A136 x0) [] := by
    intro R hR
    refine rg trivial ?_
    refine rg ⟨by trivial, trivial⟩ ?_
    revert hR; refine cd (fun hc1 hR => ?_) fun hc1 hR => ?_
    ·
      refine rg trivial ?_
      exact congrArg C136 hR
    ·
      refine rg trivial ?_
      exact congrArg C136 hR
  exact Fn.go 6 Try.func136 (by kernel_rfl) (by kernel_rfl) (by simp [C136, Frs, FrsL]) (A136 x0) (by kernel_rfl) (aux _ rfl)
def k136 (x0 : Int) : Cl := (hres (C136 (stepSex x0)), k0 (ok_impl_stepSex x0))
def C157 (R : Int) : LV × List (Nat × BC) := (.int .i64 R, [])
def l3Sex (x0 : Int) : Int := bif (decide ((x0.tmod 2) = 1)) then 1 else 2
def A157 (x0 : Int) : Ann := r0 1 [0, 2] [] (r1 1 [2, 5] [] [pf ((2 : Int) ≠ 0)] [0] (cn (decide ((x0.tmod 2) = 1)) (r0 1 [2] [] (rt [] (C157 1))) (r0 1 [2] [] (rt [] (C157 2)))))
theorem ok_spec_l3Sex (x0 : Int) : FnT Try.prog 157 [.int .i64 x0] (C157 (l3Sex x0)) := by
  have aux : ∀ R, l3Sex x0 = R → slim (C157 R) (A157 x0) [] := by
    intro R hR
    refine rg trivial ?_
    refine rg ⟨by trivial, trivial⟩ ?_
    revert hR; refine cd (fun hc1 hR => ?_) fun hc1 hR => ?_
    ·
      refine rg trivial ?_
      exact congrArg C157 hR
    ·
      refine rg trivial ?_
      exact congrArg C157 hR
  exact Fn.go 6 Try.func157 (by kernel_rfl) (by kernel_rfl) (by simp [C157, Frs, FrsL]) (A157 x0) (by kernel_rfl) (aux _ rfl)
def k157 (x0 : Int) : Cl := (hres (C157 (l3Sex x0)), k0 (ok_spec_l3Sex x0))
def C130 (R : Bool) : LV × List (Nat × BC) := (.bool R, [])
def stepFits (x0 : Step) (x1 : Int) : Bool := bif ((((decide (x0.kind < 1)) || (decide (8 < x0.kind))) || (decide (x0.age < 0))) || (decide (2 < x0.age))) then false else (bif (((!decide (x0.age = 0)) && (!decide (x0.kind = 3))) && (!decide (x0.kind = 4))) then false else (bif (((decide (x0.kind = 7)) && (decide (x1 = 1))) || ((decide (x0.kind = 8)) && (decide (x1 = 2)))) then false else true))
def A130 (x0 : Step) (x1 : Int) : Ann := r0 1 [1, 2, 4] [2] (.reg 1 [] [] [1, 2, 4, 5] [2] [!(decide (x0.kind < 1)), decide (x0.kind < 1), !((decide (x0.kind < 1)) || (decide (8 < x0.kind))), (decide (x0.kind < 1)) || (decide (8 < x0.kind)), !(((decide (x0.kind < 1)) || (decide (8 < x0.kind))) || (decide (x0.age < 0))), ((decide (x0.kind < 1)) || (decide (8 < x0.kind))) || (decide (x0.age < 0))] [] [] [1, 1, 6, 9, 9, 14, 17, 17, 22] (cn ((((decide (x0.kind < 1)) || (decide (8 < x0.kind))) || (decide (x0.age < 0))) || (decide (2 < x0.age))) (r0 1 [4] [] (rt [] (C130 false))) (.reg 1 [] [] [1, 2, 4, 24] [2] [!decide (x0.age = 0), (!decide (x0.age = 0)) && (!decide (x0.kind = 3))] [] [] [1, 1, 1, 5, 5, 5] (cn (((!decide (x0.age = 0)) && (!decide (x0.kind = 3))) && (!decide (x0.kind = 4))) (r0 1 [4] [] (rt [] (C130 false))) (.reg 1 [] [] [4, 38] [] [decide (x0.kind = 7), !((decide (x0.kind = 7)) && (decide (x1 = 1))), (!((decide (x0.kind = 7)) && (decide (x1 = 1)))) && (decide (x0.kind = 8)), (decide (x0.kind = 7)) && (decide (x1 = 1))] [gt (!((decide (x0.kind = 7)) && (decide (x1 = 1)))) (gt (decide (x0.kind = 8)) (pf (((!((decide (x0.kind = 7)) && (decide (x1 = 1)))) && (decide (x0.kind = 8))) = true)))] [] [1, 1, 5, 5, 5, 9, 5, 0, 14] (cn (((decide (x0.kind = 7)) && (decide (x1 = 1))) || ((decide (x0.kind = 8)) && (decide (x1 = 2)))) (r0 1 [4] [] (rt [] (C130 false))) (r0 1 [4] [] (rt [] (C130 true)))))))))
theorem ok_impl_stepFits (x0 : Step) (x1 : Int) : FnT Try.prog 130 [.agg (cStep false x0), .int .i64 x1] (C130 (stepFits x0 x1)) := by
  have aux : ∀ R, stepFits x0 x1 = R → slim (C130 R) (A130 x0 x1) [] := by
    intro R hR
    refine rg trivial ?_
    refine rg trivial ?_
    revert hR; refine cd (fun hc1 hR => ?_) fun hc1 hR => ?_
    ·
      refine rg trivial ?_
      exact congrArg C130 hR
    ·
      refine rg trivial ?_
      revert hR; refine cd (fun hc2 hR => ?_) fun hc2 hR => ?_
      ·
        refine rg trivial ?_
        exact congrArg C130 hR
      ·
        refine rg ⟨by ((try clear hR); intros; (try simp only [decide_eq_true_eq, decide_eq_false_iff_not, Bool.or_eq_true, Bool.and_eq_true, or_f_iff, not_f_iff, not_t_iff, Bool.not_eq_true', inR] at *); (repeat' apply And.intro) <;> (intros; omega)), trivial⟩ ?_
        revert hR; refine cd (fun hc3 hR => ?_) fun hc3 hR => ?_
        ·
          refine rg trivial ?_
          exact congrArg C130 hR
        ·
          refine rg trivial ?_
          exact congrArg C130 hR
  exact Fn.go 55 Try.func130 (by kernel_rfl) (by kernel_rfl) (by simp [C130, Frs, FrsL]) (A130 x0 x1) (by kernel_rfl) (aux _ rfl)
def k130 (x0 : Step) (x1 : Int) : Cl := (hres (C130 (stepFits x0 x1)), k0 (ok_impl_stepFits x0 x1))
def C156 (R : Bool) : LV × List (Nat × BC) := (.bool R, [])
def l3Step (x0 : Step) (x1 : Int) : Bool := bif ((!(l1In x0.kind 1 8)) || (!(l1In x0.age 0 2))) then false else (bif (((!decide (x0.age = 0)) && (!decide (x0.kind = 3))) && (!decide (x0.kind = 4))) then false else (((!decide (x0.kind = 7)) || (!decide (x1 = 1))) && ((!decide (x0.kind = 8)) || (!decide (x1 = 2)))))
def A156 (x0 : Step) (x1 : Int) : Ann := r0 1 [1, 2, 4] [2] (.reg 1 [] [(2, k87 x0.kind 1 8), (7, cg (!(!(l1In x0.kind 1 8))) (k87 x0.age 0 2))] [1, 2, 4, 14] [2] [!(!(l1In x0.kind 1 8)), !(l1In x0.kind 1 8)] [] [] [0, 1, 1, 4, 1, 6] (cn ((!(l1In x0.kind 1 8)) || (!(l1In x0.age 0 2))) (r0 1 [1, 2, 4] [2] (rt [] (C156 false))) (.reg 1 [] [] [1, 2, 4, 27] [2] [!decide (x0.age = 0), (!decide (x0.age = 0)) && (!decide (x0.kind = 3))] [] [] [1, 1, 1, 5, 5, 5] (cn (((!decide (x0.age = 0)) && (!decide (x0.kind = 3))) && (!decide (x0.kind = 4))) (r0 1 [1, 2, 4] [2] (rt [] (C156 false))) (.reg 1 [] [] [4] [] [!(!decide (x0.kind = 7)), !decide (x0.kind = 7), (!decide (x0.kind = 7)) || (!decide (x1 = 1)), ((!decide (x0.kind = 7)) || (!decide (x1 = 1))) && (!(!decide (x0.kind = 8)))] [gt ((!decide (x0.kind = 7)) || (!decide (x1 = 1))) (gf (!decide (x0.kind = 8)) (pf ((((!decide (x0.kind = 7)) || (!decide (x1 = 1))) && (!(!decide (x0.kind = 8)))) = true)))] [] [1, 6, 9, 9, 9, 13, 9, 0, 9] (rt [] (C156 (((!decide (x0.kind = 7)) || (!decide (x1 = 1))) && ((!decide (x0.kind = 8)) || (!decide (x1 = 2)))))))))))
theorem ok_spec_l3Step (x0 : Step) (x1 : Int) : FnT Try.prog 156 [.agg (cStep false x0), .int .i64 x1] (C156 (l3Step x0 x1)) := by
  have aux : ∀ R, l3Step x0 x1 = R → slim (C156 R) (A156 x0 x1) [] := by
    intro R hR
    refine rg trivial ?_
    refine rg ⟨trivial, fun hg0 => trivial, trivial⟩ ?_
    revert hR; refine cd (fun hc1 hR => ?_) fun hc1 hR => ?_
    ·
      refine rg trivial ?_
      exact congrArg C156 hR
    ·
      refine rg trivial ?_
      revert hR; refine cd (fun hc2 hR => ?_) fun hc2 hR => ?_
      ·
        refine rg trivial ?_
        exact congrArg C156 hR
      ·
        refine rg ⟨by ((try clear hR); intros; (try simp only [decide_eq_true_eq, decide_eq_false_iff_not, Bool.or_eq_true, Bool.and_eq_true, or_f_iff, not_f_iff, not_t_iff, Bool.not_eq_true', inR] at *); (repeat' apply And.intro) <;> (intros; omega)), trivial⟩ ?_
        exact congrArg C156 hR
  exact Fn.go 44 Try.func156 (by kernel_rfl) (by kernel_rfl) (by simp [C156, Frs, FrsL]) (A156 x0 x1) (by kernel_rfl) (aux _ rfl)
def k156 (x0 : Step) (x1 : Int) : Cl := (hres (C156 (l3Step x0 x1)), k0 (ok_spec_l3Step x0 x1))
def C64 (R : Bool) : LV × List (Nat × BC) := (.bool R, [])
def implIsType (x0 : KinType) : Bool := bif (((decide (x0.ego < 0)) || (decide (2 < x0.ego))) || (decide (8 < ((x0.steps.length : Nat) : Int)))) then false else (loopN (fun i1 (v1 : Int) next => bif (!(stepFits (x0.steps.getD i1 default) v1)) then false else (next (stepSex ((x0.steps.getD i1 default).kind)))) (fun (v1 : Int) => true) x0.steps.length 0 x0.ego)
def D64b1 (x0 : KinType) (i1 : Nat) (v1 : Int) : Dl := ⟨[(25, .int .i64 ((i1 : Nat) : Int)), (3, .int .i64 v1)], []⟩
def A64b1 (x0 : KinType) (i1 : Nat) (v1 : Int) : Ann := r0 1 [2, 3, 23, 24, 25, 26] [] (cn (decide (((i1 : Nat) : Int) < ((x0.steps.length : Nat) : Int))) (r1 1 [2, 3, 5, 23, 24, 25] [5] [pf (0 ≤ (((i1 : Nat) : Int) : Int) ∧ (((i1 : Nat) : Int) : Int) < ((x0.steps.length : Nat) : Int))] [0] (.reg 1 [] [(2, k130 (x0.steps.getD i1 default) v1)] [2, 3, 5, 23, 24, 25, 32] [5] [] [] [] [0] (cn (!(stepFits (x0.steps.getD i1 default) v1)) (r0 1 [2, 3, 5, 23, 24, 25] [5] (rt [] (C64 false))) (.reg 1 [] [(2, k136 ((x0.steps.getD i1 default).kind))] [2, 3, 23, 24, 25] [] [] [] [] [0] (r1 1 [2, 3, 23, 24, 25] [] [pf (inR .i64 (((i1 : Nat) : Int) + 1))] [0] (.next 0 [] (D64b1 x0 (i1 + 1) (stepSex ((x0.steps.getD i1 default).kind))))))))) (r0 1 [2] [] (rt [] (C64 true))))
def A64 (x0 : KinType) : Ann := r0 1 [1, 2] [1] (.reg 1 [] [] [1, 2, 19] [1] [!(decide (x0.ego < 0)), decide (x0.ego < 0), !((decide (x0.ego < 0)) || (decide (2 < x0.ego))), (decide (x0.ego < 0)) || (decide (2 < x0.ego))] [] [] [1, 1, 6, 9, 9, 9, 14] (cn (((decide (x0.ego < 0)) || (decide (2 < x0.ego))) || (decide (8 < ((x0.steps.length : Nat) : Int)))) (r0 1 [1, 2] [1] (rt [] (C64 false))) (r0 1 [1, 2, 3] [1] (r0 1 [2, 3, 23, 24, 25] [] (lp (D64b1 x0) [] [] [] (D64b1 x0 0 x0.ego) (A64b1 x0))))))
theorem ok_impl_IsType (x0 : KinType) (h0 : x0.steps.length ≤ 1048576) : FnT Try.prog 64 [.agg (cKinType false x0)] (C64 (implIsType x0)) := by
  have aux : ∀ R, implIsType x0 = R → slim (C64 R) (A64 x0) [] := by
    intro R hR
    refine rg trivial ?_
    refine rg trivial ?_
    revert hR; refine cd (fun hc1 hR => ?_) fun hc1 hR => ?_
    ·
      refine rg trivial ?_
      exact congrArg C64 hR
    ·
      refine rg trivial ?_
      refine rg trivial ?_
      revert hR; refine lN (fun i v => True) (by trivial) rfl fun i1 v1 F1 hn1 hI1 hR hK1 => ?_
      refine rg trivial ?_
      refine ⟨fun hc2 => ?_, fun hc2 => ?_⟩
      · have hii1 : i1 < x0.steps.length := by have := of_decide_eq_true hc2; omega
        replace hR := loopN_step hR hii1
        refine rg ⟨by (intros; omega), trivial⟩ ?_
        refine rg ⟨trivial, trivial⟩ ?_
        revert hR; refine cd (fun hc3 hR => ?_) fun hc3 hR => ?_
        ·
          refine rg trivial ?_
          exact congrArg C64 hR
        ·
          refine rg ⟨trivial, trivial⟩ ?_
          refine rg ⟨by ( intros; simp only [inR]; omega), trivial⟩ ?_
          exact hK1 (stepSex ((x0.steps.getD i1 default).kind)) hii1 (by trivial) hR
      · obtain rfl : i1 = x0.steps.length := by have := of_decide_eq_false hc2; omega
        replace hR := loopN_end hR (Nat.lt_irrefl _)
        refine rg trivial ?_
        exact congrArg C64 hR
  exact Fn.go 37 Try.func64 (by kernel_rfl) (by kernel_rfl) (by simp [C64, Frs, FrsL]) (A64 x0) (by kernel_rfl) (aux _ rfl)
def k64 (x0 : KinType) : Cl := (hres (C64 (implIsType x0)), k1 (ok_impl_IsType x0))
def C90 (R : Bool) : LV × List (Nat × BC) := (.bool R, [])
def specIsType (x0 : KinType) : Bool := bif ((!(l1In x0.ego 0 2)) || (decide (8 < ((x0.steps.length : Nat) : Int)))) then false else (loopN (fun i1 (v1 : Int) next => bif (!(l3Step (x0.steps.getD i1 default) v1)) then false else (next (l3Sex ((x0.steps.getD i1 default).kind)))) (fun (v1 : Int) => true) x0.steps.length 0 x0.ego)
def D90b1 (x0 : KinType) (i1 : Nat) (v1 : Int) : Dl := ⟨[(21, .int .i64 ((i1 : Nat) : Int)), (3, .int .i64 v1)], []⟩
def A90b1 (x0 : KinType) (i1 : Nat) (v1 : Int) : Ann := r0 1 [2, 3, 19, 20, 21, 22] [] (cn (decide (((i1 : Nat) : Int) < ((x0.steps.length : Nat) : Int))) (r1 1 [2, 3, 5, 19, 20, 21] [5] [pf (0 ≤ (((i1 : Nat) : Int) : Int) ∧ (((i1 : Nat) : Int) : Int) < ((x0.steps.length : Nat) : Int))] [0] (.reg 1 [] [(2, k156 (x0.steps.getD i1 default) v1)] [2, 3, 5, 19, 20, 21, 28] [5] [] [] [] [0] (cn (!(l3Step (x0.steps.getD i1 default) v1)) (r0 1 [2, 3, 5, 19, 20, 21] [5] (rt [] (C90 false))) (.reg 1 [] [(2, k157 ((x0.steps.getD i1 default).kind))] [2, 3, 19, 20, 21] [] [] [] [] [0] (r1 1 [2, 3, 19, 20, 21] [] [pf (inR .i64 (((i1 : Nat) : Int) + 1))] [0] (.next 0 [] (D90b1 x0 (i1 + 1) (l3Sex ((x0.steps.getD i1 default).kind))))))))) (r0 1 [2] [] (rt [] (C90 true))))
def A90 (x0 : KinType) : Ann := r0 1 [1, 2] [1] (.reg 1 [] [(2, k87 x0.ego 0 2)] [1, 2, 15] [1] [!(!(l1In x0.ego 0 2)), !(l1In x0.ego 0 2)] [] [] [0, 1, 1, 1, 6] (cn ((!(l1In x0.ego 0 2)) || (decide (8 < ((x0.steps.length : Nat) : Int)))) (r0 1 [1, 2] [1] (rt [] (C90 false))) (r0 1 [1, 2, 3] [1] (r0 1 [2, 3, 19, 20, 21] [] (lp (D90b1 x0) [] [] [] (D90b1 x0 0 x0.ego) (A90b1 x0))))))
theorem ok_spec_IsType (x0 : KinType) (h0 : x0.steps.length ≤ 1048576) : FnT Try.prog 90 [.agg (cKinType false x0)] (C90 (specIsType x0)) := by
  have aux : ∀ R, specIsType x0 = R → slim (C90 R) (A90 x0) [] := by
    intro R hR
    refine rg trivial ?_
    refine rg ⟨trivial, trivial⟩ ?_
    revert hR; refine cd (fun hc1 hR => ?_) fun hc1 hR => ?_
    ·
      refine rg trivial ?_
      exact congrArg C90 hR
    ·
      refine rg trivial ?_
      refine rg trivial ?_
      revert hR; refine lN (fun i v => True) (by trivial) rfl fun i1 v1 F1 hn1 hI1 hR hK1 => ?_
      refine rg trivial ?_
      refine ⟨fun hc2 => ?_, fun hc2 => ?_⟩
      · have hii1 : i1 < x0.steps.length := by have := of_decide_eq_true hc2; omega
        replace hR := loopN_step hR hii1
        refine rg ⟨by (intros; omega), trivial⟩ ?_
        refine rg ⟨trivial, trivial⟩ ?_
        revert hR; refine cd (fun hc3 hR => ?_) fun hc3 hR => ?_
        ·
          refine rg trivial ?_
          exact congrArg C90 hR
        ·
          refine rg ⟨trivial, trivial⟩ ?_
          refine rg ⟨by ( intros; simp only [inR]; omega), trivial⟩ ?_
          exact hK1 (l3Sex ((x0.steps.getD i1 default).kind)) hii1 (by trivial) hR
      · obtain rfl : i1 = x0.steps.length := by have := of_decide_eq_false hc2; omega
        replace hR := loopN_end hR (Nat.lt_irrefl _)
        refine rg trivial ?_
        exact congrArg C90 hR
  exact Fn.go 33 Try.func90 (by kernel_rfl) (by kernel_rfl) (by simp [C90, Frs, FrsL]) (A90 x0) (by kernel_rfl) (aux _ rfl)
def k90 (x0 : KinType) : Cl := (hres (C90 (specIsType x0)), k1 (ok_spec_IsType x0))
def C166 (R : Bool) : LV × List (Nat × BC) := (.bool R, [])
def sameSteps (x0 : List Step) (x1 : List Step) : Bool := bif (!decide (((x0.length : Nat) : Int) = ((x1.length : Nat) : Int))) then false else (loopN (fun i1 (v1 : Unit) next => bif (!((decide (((x0.getD i1 default).kind) = ((x1.getD i1 default).kind))) && ((decide (((x0.getD i1 default).age) = ((x1.getD i1 default).age))) && true))) then false else (next ())) (fun (v1 : Unit) => true) x0.length 0 ())
def D166b1 (x0 : List Step) (x1 : List Step) (i1 : Nat) (v1 : Unit) : Dl := ⟨[(13, .int .i64 ((i1 : Nat) : Int))], []⟩
def A166b1 (x0 : List Step) (x1 : List Step) (i1 : Nat) (v1 : Unit) : Ann := r0 1 [0, 1, 4, 12, 13, 14] [] (cn (decide (((i1 : Nat) : Int) < ((x0.length : Nat) : Int))) (r1 2 [0, 1, 4, 12, 13, 24] [] [pf (0 ≤ (((i1 : Nat) : Int) : Int) ∧ (((i1 : Nat) : Int) : Int) < ((x0.length : Nat) : Int)), pf (0 ≤ (((i1 : Nat) : Int) : Int) ∧ (((i1 : Nat) : Int) : Int) < ((x1.length : Nat) : Int))] [0, 4] (cn (!((decide (((x0.getD i1 default).kind) = ((x1.getD i1 default).kind))) && ((decide (((x0.getD i1 default).age) = ((x1.getD i1 default).age))) && true))) (r0 1 [0, 1, 4, 12, 13] [] (rt [] (C166 false))) (r1 1 [0, 1, 4, 12, 13] [] [pf (inR .i64 (((i1 : Nat) : Int) + 1))] [0] (.next 0 [] (D166b1 x0 x1 (i1 + 1) ()))))) (r0 1 [4] [] (rt [] (C166 true))))
def A166 (x0 : List Step) (x1 : List Step) : Ann := r0 1 [0, 1, 4] [] (r0 1 [0, 1, 4, 10] [] (cn (!decide (((x0.length : Nat) : Int) = ((x1.length : Nat) : Int))) (r0 1 [0, 1, 4] [] (rt [] (C166 false))) (r0 1 [0, 1, 4, 12, 13] [] (lp (D166b1 x0 x1) [] [] [] (D166b1 x0 x1 0 ()) (A166b1 x0 x1)))))
theorem ok_impl_sameSteps (x0 : List Step) (x1 : List Step) (h0 : x0.length ≤ 1048576) (h1 : x1.length ≤ 1048576) : FnT Try.prog 166 [.ro false 2 x0.length (rowOf (cStep false) x0), .ro false 2 x1.length (rowOf (cStep false) x1)] (C166 (sameSteps x0 x1)) := by
  have aux : ∀ R, sameSteps x0 x1 = R → slim (C166 R) (A166 x0 x1) [] := by
    intro R hR
    refine rg trivial ?_
    refine rg trivial ?_
    revert hR; refine cd (fun hc1 hR => ?_) fun hc1 hR => ?_
    ·
      refine rg trivial ?_
      exact congrArg C166 hR
    ·
      refine rg trivial ?_
      revert hR; refine lN (fun i v => True) (by trivial) rfl fun i1 v1 F1 hn1 hI1 hR hK1 => ?_
      refine rg trivial ?_
      refine ⟨fun hc2 => ?_, fun hc2 => ?_⟩
      · have hii1 : i1 < x0.length := by have := of_decide_eq_true hc2; omega
        replace hR := loopN_step hR hii1
        refine rg ⟨by (intros; omega), by ((try clear hR hK1); intros; (try simp only [decide_eq_true_eq, decide_eq_false_iff_not, Bool.or_eq_true, Bool.and_eq_true, or_f_iff, not_f_iff, not_t_iff, Bool.not_eq_true', inR] at *); (repeat' apply And.intro) <;> (intros; omega)), trivial⟩ ?_
        revert hR; refine cd (fun hc3 hR => ?_) fun hc3 hR => ?_
        ·
          refine rg trivial ?_
          exact congrArg C166 hR
        ·
          refine rg ⟨by ( intros; simp only [inR]; omega), trivial⟩ ?_
          exact hK1 () hii1 (by trivial) hR
      · obtain rfl : i1 = x0.length := by have := of_decide_eq_false hc2; omega
        replace hR := loopN_end hR (Nat.lt_irrefl _)
        refine rg trivial ?_
        exact congrArg C166 hR
  exact Fn.go 26 Try.func166 (by kernel_rfl) (by kernel_rfl) (by simp [C166, Frs, FrsL]) (A166 x0 x1) (by kernel_rfl) (aux _ rfl)
def k166 (x0 : List Step) (x1 : List Step) : Cl := (hres (C166 (sameSteps x0 x1)), k2 (ok_impl_sameSteps x0 x1))
def C158 (R : Bool) : LV × List (Nat × BC) := (.bool R, [])
def l3Steps (x0 : List Step) (x1 : List Step) : Bool := bif (!decide (((x0.length : Nat) : Int) = ((x1.length : Nat) : Int))) then false else (loopN (fun i1 (v1 : Unit) next => bif (!((decide (((x0.getD i1 default).kind) = ((x1.getD i1 default).kind))) && ((decide (((x0.getD i1 default).age) = ((x1.getD i1 default).age))) && true))) then false else (next ())) (fun (v1 : Unit) => true) x0.length 0 ())
def D158b1 (x0 : List Step) (x1 : List Step) (i1 : Nat) (v1 : Unit) : Dl := ⟨[(13, .int .i64 ((i1 : Nat) : Int))], []⟩
def A158b1 (x0 : List Step) (x1 : List Step) (i1 : Nat) (v1 : Unit) : Ann := r0 1 [0, 1, 4, 12, 13, 14] [] (cn (decide (((i1 : Nat) : Int) < ((x0.length : Nat) : Int))) (r1 2 [0, 1, 4, 12, 13, 24] [] [pf (0 ≤ (((i1 : Nat) : Int) : Int) ∧ (((i1 : Nat) : Int) : Int) < ((x0.length : Nat) : Int)), pf (0 ≤ (((i1 : Nat) : Int) : Int) ∧ (((i1 : Nat) : Int) : Int) < ((x1.length : Nat) : Int))] [0, 4] (cn (!((decide (((x0.getD i1 default).kind) = ((x1.getD i1 default).kind))) && ((decide (((x0.getD i1 default).age) = ((x1.getD i1 default).age))) && true))) (r0 1 [0, 1, 4, 12, 13] [] (rt [] (C158 false))) (r1 1 [0, 1, 4, 12, 13] [] [pf (inR .i64 (((i1 : Nat) : Int) + 1))] [0] (.next 0 [] (D158b1 x0 x1 (i1 + 1) ()))))) (r0 1 [4] [] (rt [] (C158 true))))
def A158 (x0 : List Step) (x1 : List Step) : Ann := r0 1 [0, 1, 4] [] (r0 1 [0, 1, 4, 10] [] (cn (!decide (((x0.length : Nat) : Int) = ((x1.length : Nat) : Int))) (r0 1 [0, 1, 4] [] (rt [] (C158 false))) (r0 1 [0, 1, 4, 12, 13] [] (lp (D158b1 x0 x1) [] [] [] (D158b1 x0 x1 0 ()) (A158b1 x0 x1)))))
theorem ok_spec_l3Steps (x0 : List Step) (x1 : List Step) (h0 : x0.length ≤ 1048576) (h1 : x1.length ≤ 1048576) : FnT Try.prog 158 [.ro false 2 x0.length (rowOf (cStep false) x0), .ro false 2 x1.length (rowOf (cStep false) x1)] (C158 (l3Steps x0 x1)) := by
  have aux : ∀ R, l3Steps x0 x1 = R → slim (C158 R) (A158 x0 x1) [] := by
    intro R hR
    refine rg trivial ?_
    refine rg trivial ?_
    revert hR; refine cd (fun hc1 hR => ?_) fun hc1 hR => ?_
    ·
      refine rg trivial ?_
      exact congrArg C158 hR
    ·
      refine rg trivial ?_
      revert hR; refine lN (fun i v => True) (by trivial) rfl fun i1 v1 F1 hn1 hI1 hR hK1 => ?_
      refine rg trivial ?_
      refine ⟨fun hc2 => ?_, fun hc2 => ?_⟩
      · have hii1 : i1 < x0.length := by have := of_decide_eq_true hc2; omega
        replace hR := loopN_step hR hii1
        refine rg ⟨by (intros; omega), by ((try clear hR hK1); intros; (try simp only [decide_eq_true_eq, decide_eq_false_iff_not, Bool.or_eq_true, Bool.and_eq_true, or_f_iff, not_f_iff, not_t_iff, Bool.not_eq_true', inR] at *); (repeat' apply And.intro) <;> (intros; omega)), trivial⟩ ?_
        revert hR; refine cd (fun hc3 hR => ?_) fun hc3 hR => ?_
        ·
          refine rg trivial ?_
          exact congrArg C158 hR
        ·
          refine rg ⟨by ( intros; simp only [inR]; omega), trivial⟩ ?_
          exact hK1 () hii1 (by trivial) hR
      · obtain rfl : i1 = x0.length := by have := of_decide_eq_false hc2; omega
        replace hR := loopN_end hR (Nat.lt_irrefl _)
        refine rg trivial ?_
        exact congrArg C158 hR
  exact Fn.go 26 Try.func158 (by kernel_rfl) (by kernel_rfl) (by simp [C158, Frs, FrsL]) (A158 x0 x1) (by kernel_rfl) (aux _ rfl)
def k158 (x0 : List Step) (x1 : List Step) : Cl := (hres (C158 (l3Steps x0 x1)), k2 (ok_spec_l3Steps x0 x1))
def C103 (R : Bool) : LV × List (Nat × BC) := (.bool R, [])
def implEqT (x0 : KinType) (x1 : KinType) : Bool := (decide (x0.ego = x1.ego)) && (sameSteps x0.steps x1.steps)
def A103 (x0 : KinType) (x1 : KinType) : Ann := .reg 2 [] [(1010, cg (decide (x0.ego = x1.ego)) (k166 x0.steps x1.steps))] [4] [] [decide (x0.ego = x1.ego)] [] [] [1, 1, 1, 1, 0, 1] (rt [] (C103 ((decide (x0.ego = x1.ego)) && (sameSteps x0.steps x1.steps))))
theorem ok_impl_EqualTypes (x0 : KinType) (x1 : KinType) (h0 : x0.steps.length ≤ 1048576) (h1 : x1.steps.length ≤ 1048576) : FnT Try.prog 103 [.agg (cKinType false x0), .agg (cKinType false x1)] (C103 (implEqT x0 x1)) := by
  have aux : ∀ R, implEqT x0 x1 = R → slim (C103 R) (A103 x0 x1) [] := by
    intro R hR
    refine rg ⟨fun hg0 => ⟨by trivial, by trivial⟩, trivial⟩ ?_
    exact congrArg C103 hR
  exact Fn.go 17 Try.func103 (by kernel_rfl) (by kernel_rfl) (by simp [C103, Frs, FrsL]) (A103 x0 x1) (by kernel_rfl) (aux _ rfl)
def k103 (x0 : KinType) (x1 : KinType) : Cl := (hres (C103 (implEqT x0 x1)), k2 (ok_impl_EqualTypes x0 x1))
def C91 (R : Bool) : LV × List (Nat × BC) := (.bool R, [])
def specEqT (x0 : KinType) (x1 : KinType) : Bool := (decide (x0.ego = x1.ego)) && (l3Steps x0.steps x1.steps)
def A91 (x0 : KinType) (x1 : KinType) : Ann := .reg 2 [] [(1010, cg (decide (x0.ego = x1.ego)) (k158 x0.steps x1.steps))] [4] [] [decide (x0.ego = x1.ego)] [] [] [1, 1, 1, 1, 0, 1] (rt [] (C91 ((decide (x0.ego = x1.ego)) && (l3Steps x0.steps x1.steps))))
theorem ok_spec_EqualTypes (x0 : KinType) (x1 : KinType) (h0 : x0.steps.length ≤ 1048576) (h1 : x1.steps.length ≤ 1048576) : FnT Try.prog 91 [.agg (cKinType false x0), .agg (cKinType false x1)] (C91 (specEqT x0 x1)) := by
  have aux : ∀ R, specEqT x0 x1 = R → slim (C91 R) (A91 x0 x1) [] := by
    intro R hR
    refine rg ⟨fun hg0 => ⟨by trivial, by trivial⟩, trivial⟩ ?_
    exact congrArg C91 hR
  exact Fn.go 17 Try.func91 (by kernel_rfl) (by kernel_rfl) (by simp [C91, Frs, FrsL]) (A91 x0 x1) (by kernel_rfl) (aux _ rfl)
def k91 (x0 : KinType) (x1 : KinType) : Cl := (hres (C91 (specEqT x0 x1)), k2 (ok_spec_EqualTypes x0 x1))
def C131 (R : Int) : LV × List (Nat × BC) := (.int .i64 R, [])
def sexOf (x0 : KinType) : Int := bif (decide (((x0.steps.length : Nat) : Int) = 0)) then x0.ego else (stepSex ((x0.steps.getD ((((x0.steps.length : Nat) : Int) - 1).toNat) default).kind))
def A131 (x0 : KinType) : Ann := r0 1 [1, 2] [1] (r0 1 [1, 2, 6] [1] (cn (decide (((x0.steps.length : Nat) : Int) = 0)) (r0 1 [1, 2] [1] (rt [] (C131 x0.ego))) (.reg 1 [] [(9, k136 ((x0.steps.getD ((((x0.steps.length : Nat) : Int) - 1).toNat) default).kind))] [2] [] [] [pf (inR .i64 (((x0.steps.length : Nat) : Int) - 1)), pf (0 ≤ (((x0.steps.length : Nat) : Int) - 1 : Int) ∧ (((x0.steps.length : Nat) : Int) - 1 : Int) < ((x0.steps.length : Nat) : Int))] [] [0, 4, 8] (rt [] (C131 (stepSex ((x0.steps.getD ((((x0.steps.length : Nat) : Int) - 1).toNat) default).kind)))))))
theorem ok_impl_sexOf (x0 : KinType) (h0 : x0.steps.length ≤ 1048576) : FnT Try.prog 131 [.agg (cKinType false x0)] (C131 (sexOf x0)) := by
  have aux : ∀ R, sexOf x0 = R → slim (C131 R) (A131 x0) [] := by
    intro R hR
    refine rg trivial ?_
    refine rg trivial ?_
    revert hR; refine cd (fun hc1 hR => ?_) fun hc1 hR => ?_
    ·
      refine rg trivial ?_
      exact congrArg C131 hR
    ·
      refine rg ⟨by ( intros; simp only [inR]; omega), by ((try clear hR); intros; (try simp only [decide_eq_true_eq, decide_eq_false_iff_not, Bool.or_eq_true, Bool.and_eq_true, or_f_iff, not_f_iff, not_t_iff, Bool.not_eq_true', inR] at *); (repeat' apply And.intro) <;> (intros; omega)), trivial, trivial⟩ ?_
      exact congrArg C131 hR
  exact Fn.go 19 Try.func131 (by kernel_rfl) (by kernel_rfl) (by simp [C131, Frs, FrsL]) (A131 x0) (by kernel_rfl) (aux _ rfl)
def k131 (x0 : KinType) : Cl := (hres (C131 (sexOf x0)), k1 (ok_impl_sexOf x0))
def C135 (R : Int) : LV × List (Nat × BC) := (.int .i64 R, [])
def egoOf (x0 : KinType) : Int := bif ((!decide (x0.ego = 0)) || (decide (((x0.steps.length : Nat) : Int) = 0))) then x0.ego else (bif (decide (((x0.steps.getD 0 default).kind) = 7)) then 2 else (bif (decide (((x0.steps.getD 0 default).kind) = 8)) then 1 else 0))
def A135 (x0 : KinType) : Ann := r0 1 [1, 2] [1] (.reg 1 [] [] [1, 2, 11] [1] [!(!decide (x0.ego = 0)), !decide (x0.ego = 0)] [] [] [1, 1, 1, 6] (cn ((!decide (x0.ego = 0)) || (decide (((x0.steps.length : Nat) : Int) = 0))) (r0 1 [1, 2] [1] (rt [] (C135 x0.ego))) (r1 1 [2, 18] [] [pf (0 ≤ (0 : Int) ∧ (0 : Int) < ((x0.steps.length : Nat) : Int))] [0] (r0 1 [2, 18, 19] [] (cn (decide (((x0.steps.getD 0 default).kind) = 7)) (r0 1 [2] [] (rt [] (C135 2))) (r0 1 [2, 21] [] (cn (decide (((x0.steps.getD 0 default).kind) = 8)) (r0 1 [2] [] (rt [] (C135 1))) (r0 1 [2] [] (rt [] (C135 0))))))))))
theorem ok_impl_egoOf (x0 : KinType) (h0 : x0.steps.length ≤ 1048576) : FnT Try.prog 135 [.agg (cKinType false x0)] (C135 (egoOf x0)) := by
  have aux : ∀ R, egoOf x0 = R → slim (C135 R) (A135 x0) [] := by
    intro R hR
    refine rg trivial ?_
    refine rg trivial ?_
    revert hR; refine cd (fun hc1 hR => ?_) fun hc1 hR => ?_
    ·
      refine rg trivial ?_
      exact congrArg C135 hR
    ·
      refine rg ⟨by ((try clear hR); intros; (try simp only [decide_eq_true_eq, decide_eq_false_iff_not, Bool.or_eq_true, Bool.and_eq_true, or_f_iff, not_f_iff, not_t_iff, Bool.not_eq_true', inR] at *); (repeat' apply And.intro) <;> (intros; omega)), trivial⟩ ?_
      refine rg trivial ?_
      revert hR; refine cd (fun hc2 hR => ?_) fun hc2 hR => ?_
      ·
        refine rg trivial ?_
        exact congrArg C135 hR
      ·
        refine rg trivial ?_
        revert hR; refine cd (fun hc3 hR => ?_) fun hc3 hR => ?_
        ·
          refine rg trivial ?_
          exact congrArg C135 hR
        ·
          refine rg trivial ?_
          exact congrArg C135 hR
  exact Fn.go 23 Try.func135 (by kernel_rfl) (by kernel_rfl) (by simp [C135, Frs, FrsL]) (A135 x0) (by kernel_rfl) (aux _ rfl)
def k135 (x0 : KinType) : Cl := (hres (C135 (egoOf x0)), k1 (ok_impl_egoOf x0))
def C132 (R : KinType) : LV × List (Nat × BC) := (.agg [.int .i64 R.ego, .own 0], [(0, .arr 2 R.steps.length (rowOf (cStep true) R.steps))])
def copyType (x0 : KinType) : KinType := x0
def A132 (x0 : KinType) : Ann := .reg 2 [] [(1004, apN 7 (cStep true) 16 x0.steps)] [2] [2, 7] [] [] [] [0] (rt [(0, some 7)] (C132 x0))
theorem ok_impl_copyType (x0 : KinType) (h0 : x0.steps.length ≤ 1048576) : FnT Try.prog 132 [.agg (cKinType false x0)] (C132 (copyType x0)) := by
  have aux : ∀ R, copyType x0 = R → slim (C132 R) (A132 x0) [] := by
    intro R hR
    refine rg ⟨by omega, trivial⟩ ?_
    exact congrArg C132 hR
  exact Fn.go 9 Try.func132 (by kernel_rfl) (by kernel_rfl) (by simp [C132, Frs, FrsL, FrsB, rowOf, cInt, cBool, cStr, cSl, FrsL_app, cPerson, cUnion, cFamily, cStep, cKinType]) (A132 x0) (by kernel_rfl) (aux _ rfl)
def k132 (x0 : KinType) : Cl := (hres (C132 (copyType x0)), k1 (ok_impl_copyType x0))
def C210 (R : Int) : LV × List (Nat × BC) := (.int .i64 R, [])
def l3Last (x0 : KinType) : Int := bif (decide (((x0.steps.length : Nat) : Int) = 0)) then x0.ego else (l3Sex ((x0.steps.getD ((((x0.steps.length : Nat) : Int) - 1).toNat) default).kind))
def A210 (x0 : KinType) : Ann := r0 1 [1, 2] [1] (r0 1 [1, 2, 6] [1] (cn (decide (((x0.steps.length : Nat) : Int) = 0)) (r0 1 [1, 2] [1] (rt [] (C210 x0.ego))) (.reg 1 [] [(9, k157 ((x0.steps.getD ((((x0.steps.length : Nat) : Int) - 1).toNat) default).kind))] [2] [] [] [pf (inR .i64 (((x0.steps.length : Nat) : Int) - 1)), pf (0 ≤ (((x0.steps.length : Nat) : Int) - 1 : Int) ∧ (((x0.steps.length : Nat) : Int) - 1 : Int) < ((x0.steps.length : Nat) : Int))] [] [0, 4, 8] (rt [] (C210 (l3Sex ((x0.steps.getD ((((x0.steps.length : Nat) : Int) - 1).toNat) default).kind)))))))
theorem ok_spec_l3Last (x0 : KinType) (h0 : x0.steps.length ≤ 1048576) : FnT Try.prog 210 [.agg (cKinType false x0)] (C210 (l3Last x0)) := by
  have aux : ∀ R, l3Last x0 = R → slim (C210 R) (A210 x0) [] := by
    intro R hR
    refine rg trivial ?_
    refine rg trivial ?_
    revert hR; refine cd (fun hc1 hR => ?_) fun hc1 hR => ?_
    ·
      refine rg trivial ?_
      exact congrArg C210 hR
    ·
      refine rg ⟨by ( intros; simp only [inR]; omega), by ((try clear hR); intros; (try simp only [decide_eq_true_eq, decide_eq_false_iff_not, Bool.or_eq_true, Bool.and_eq_true, or_f_iff, not_f_iff, not_t_iff, Bool.not_eq_true', inR] at *); (repeat' apply And.intro) <;> (intros; omega)), trivial, trivial⟩ ?_
      exact congrArg C210 hR
  exact Fn.go 19 Try.func210 (by kernel_rfl) (by kernel_rfl) (by simp [C210, Frs, FrsL]) (A210 x0) (by kernel_rfl) (aux _ rfl)
def k210 (x0 : KinType) : Cl := (hres (C210 (l3Last x0)), k1 (ok_spec_l3Last x0))
def C254 (R : Int) : LV × List (Nat × BC) := (.int .i64 R, [])
def l3Ego (x0 : KinType) : Int := bif ((decide (x0.ego = 0)) && (decide (0 < ((x0.steps.length : Nat) : Int)))) then (bif (decide (((x0.steps.getD 0 default).kind) = 7)) then 2 else (bif (decide (((x0.steps.getD 0 default).kind) = 8)) then 1 else x0.ego)) else x0.ego
def A254 (x0 : KinType) : Ann := r0 1 [1, 2] [1] (.reg 1 [] [] [1, 2, 11] [1] [decide (x0.ego = 0)] [] [] [1, 1, 1, 1] (cn ((decide (x0.ego = 0)) && (decide (0 < ((x0.steps.length : Nat) : Int)))) (r1 1 [1, 2, 16] [1] [pf (0 ≤ (0 : Int) ∧ (0 : Int) < ((x0.steps.length : Nat) : Int))] [0] (r0 1 [1, 2, 16, 17] [1] (cn (decide (((x0.steps.getD 0 default).kind) = 7)) (r0 1 [1, 2] [1] (rt [] (C254 2))) (r0 1 [1, 2, 19] [1] (cn (decide (((x0.steps.getD 0 default).kind) = 8)) (r0 1 [1, 2] [1] (rt [] (C254 1))) (r0 1 [2] [] (rt [] (C254 x0.ego)))))))) (r0 1 [2] [] (rt [] (C254 x0.ego)))))
theorem ok_spec_l3Ego (x0 : KinType) (h0 : x0.steps.length ≤ 1048576) : FnT Try.prog 254 [.agg (cKinType false x0)] (C254 (l3Ego x0)) := by
  have aux : ∀ R, l3Ego x0 = R → slim (C254 R) (A254 x0) [] := by
    intro R hR
    refine rg trivial ?_
    refine rg trivial ?_
    revert hR; refine cd (fun hc1 hR => ?_) fun hc1 hR => ?_
    ·
      refine rg ⟨by ((try clear hR); intros; (try simp only [decide_eq_true_eq, decide_eq_false_iff_not, Bool.or_eq_true, Bool.and_eq_true, or_f_iff, not_f_iff, not_t_iff, Bool.not_eq_true', inR] at *); (repeat' apply And.intro) <;> (intros; omega)), trivial⟩ ?_
      refine rg trivial ?_
      revert hR; refine cd (fun hc2 hR => ?_) fun hc2 hR => ?_
      ·
        refine rg trivial ?_
        exact congrArg C254 hR
      ·
        refine rg trivial ?_
        revert hR; refine cd (fun hc3 hR => ?_) fun hc3 hR => ?_
        ·
          refine rg trivial ?_
          exact congrArg C254 hR
        ·
          refine rg trivial ?_
          exact congrArg C254 hR
    ·
      refine rg trivial ?_
      exact congrArg C254 hR
  exact Fn.go 23 Try.func254 (by kernel_rfl) (by kernel_rfl) (by simp [C254, Frs, FrsL]) (A254 x0) (by kernel_rfl) (aux _ rfl)
def k254 (x0 : KinType) : Cl := (hres (C254 (l3Ego x0)), k1 (ok_spec_l3Ego x0))
def C159 (R : KinType) : LV × List (Nat × BC) := (.agg [.int .i64 R.ego, .own 0], [(0, .arr 2 R.steps.length (rowOf (cStep true) R.steps))])
def l4Copy (x0 : KinType) : KinType := (KinType.mk x0.ego (([] : List Step) ++ x0.steps))
def A159 (x0 : KinType) : Ann := .reg 2 [] [(1002, bsC 5 (cStep true) ([] : List Step)), (1005, apC 8 (cStep true) 16 ([] : List Step) x0.steps)] [2] [2, 8] [] [] [] [0, 4] (rt [(0, some 8)] (C159 (KinType.mk x0.ego (([] : List Step) ++ x0.steps))))
theorem ok_spec_l4Copy (x0 : KinType) (h0 : x0.steps.length ≤ 1048576) : FnT Try.prog 159 [.agg (cKinType false x0)] (C159 (l4Copy x0)) := by
  have aux : ∀ R, l4Copy x0 = R → slim (C159 R) (A159 x0) [] := by
    intro R hR
    refine rg ⟨trivial, by (simp; omega), trivial⟩ ?_
    exact congrArg C159 hR
  exact Fn.go 10 Try.func159 (by kernel_rfl) (by kernel_rfl) (by simp [C159, Frs, FrsL, FrsB, rowOf, cInt, cBool, cStr, cSl, FrsL_app, cPerson, cUnion, cFamily, cStep, cKinType]) (A159 x0) (by kernel_rfl) (aux _ rfl)
def k159 (x0 : KinType) : Cl := (hres (C159 (l4Copy x0)), k1 (ok_spec_l4Copy x0))
end Go.Proofs.Ytanfabaedopeiaa
