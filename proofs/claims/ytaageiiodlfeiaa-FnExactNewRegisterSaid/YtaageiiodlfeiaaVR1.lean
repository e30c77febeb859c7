import Derived.Test.YtaageiiodlfeiaaV72
set_option maxHeartbeats 4000000
set_option linter.unusedSimpArgs false
set_option linter.unusedVariables false
namespace Go.Proofs.Ytaageiiodlfeiaa
open Go Go.Lite Go.Proofs
structure Step where
  kind : Int
  age : Int
  deriving Inhabited
def cStep (fr : Bool) (x : Step) : List LV := cInt .i64 x.kind ++ cInt .i64 x.age

structure KinType where
  ego : Int
  steps : List Step
  deriving Inhabited
def cKinType (fr : Bool) (x : KinType) : List LV := cInt .i64 x.ego ++ cSl fr 2 (cStep fr) x.steps

def C95 (R : Int) : LV × List (Nat × BC) := (.int .i64 R, [])
def stepSex (x0 : Int) : Int := bif (decide ((x0.tmod 2) = 1)) then 1 else 2
def A95 (x0 : Int) : Ann := r0 1 [0, 2] [] (r1 1 [2, 5] [] [pf ((2 : Int) ≠ 0)] [0] (cn (decide ((x0.tmod 2) = 1)) (r0 1 [2] [] (rt [] (C95 1))) (r0 1 [2] [] (rt [] (C95 2)))))
theorem ok_impl_stepSex (x0 : Int) : FnT Try.prog 95 [.int .i64 x0] (C95 (stepSex x0)) := by
  have aux : ∀ R, stepSex x0 = R → slim (C95 R) (A95 x0) [] := by
    intro R hR
    refine rg trivial ?_
    refine rg ⟨by trivial, trivial⟩ ?_
    revert hR; refine cd (fun hc1 hR => ?_) fun hc1 hR => ?_
    ·
      refine rg trivial ?_
      exact congrArg C95 hR
    ·
      refine rg trivial ?_
      exact congrArg C95 hR
  exact Fn.go 6 Try.func95 (by kernel_rfl) (by kernel_rfl) (by simp [C95, Frs, FrsL]) (A95 x0) (by kernel_rfl) (aux _ rfl)
def k95 (x0 : Int) : Cl := (hres (C95 (stepSex x0)), k0 (ok_impl_stepSex x0))
def C160 (R : Int) : LV × List (Nat × BC) := (.int .i64 R, [])
def l3Sex (x0 : Int) : Int := bif (decide ((x0.tmod 2) = 1)) then 1 else 2
def A160 (x0 : Int) : Ann := r0 1 [0, 2] [] (r1 1 [2, 5] [] [pf ((2 : Int) ≠ 0)] [0] (cn (decide ((x0.tmod 2) = 1)) (r0 1 [2] [] (rt [] (C160 1))) (r0 1 [2] [] (rt [] (C160 2)))))
theorem ok_spec_l3Sex (x0 : Int) : FnT Try.prog 160 [.int .i64 x0] (C160 (l3Sex x0)) := by
  have aux : ∀ R, l3Sex x0 = R → slim (C160 R) (A160 x0) [] := by
    intro R hR
    refine rg trivial ?_
    refine rg ⟨by trivial, trivial⟩ ?_
    revert hR; refine cd (fun hc1 hR => ?_) fun hc1 hR => ?_
    ·
      refine rg trivial ?_
      exact congrArg C160 hR
    ·
      refine rg trivial ?_
      exact congrArg C160 hR
  exact Fn.go 6 Try.func160 (by kernel_rfl) (by kernel_rfl) (by simp [C160, Frs, FrsL]) (A160 x0) (by kernel_rfl) (aux _ rfl)
def k160 (x0 : Int) : Cl := (hres (C160 (l3Sex x0)), k0 (ok_spec_l3Sex x0))
def C89 (R : Bool) : LV × List (Nat × BC) := (.bool R, [])
def stepFits (x0 : Step) (x1 : Int) : Bool := bif ((((decide (x0.kind < 1)) || (decide (8 < x0.kind))) || (decide (x0.age < 0))) || (decide (2 < x0.age))) then false else (bif (((!decide (x0.age = 0)) && (!decide (x0.kind = 3))) && (!decide (x0.kind = 4))) then false else (bif (((decide (x0.kind = 7)) && (decide (x1 = 1))) || ((decide (x0.kind = 8)) && (decide (x1 = 2)))) then false else true))
def A89 (x0 : Step) (x1 : Int) : Ann := r0 1 [1, 2, 4] [2] (.reg 1 [] [] [1, 2, 4, 5] [2] [!(decide (x0.kind < 1)), decide (x0.kind < 1), !((decide (x0.kind < 1)) || (decide (8 < x0.kind))), (decide (x0.kind < 1)) || (decide (8 < x0.kind)), !(((decide (x0.kind < 1)) || (decide (8 < x0.kind))) || (decide (x0.age < 0))), ((decide (x0.kind < 1)) || (decide (8 < x0.kind))) || (decide (x0.age < 0))] [] [] [1, 1, 6, 9, 9, 14, 17, 17, 22] (cn ((((decide (x0.kind < 1)) || (decide (8 < x0.kind))) || (decide (x0.age < 0))) || (decide (2 < x0.age))) (r0 1 [4] [] (rt [] (C89 false))) (.reg 1 [] [] [1, 2, 4, 24] [2] [!decide (x0.age = 0), (!decide (x0.age = 0)) && (!decide (x0.kind = 3))] [] [] [1, 1, 1, 5, 5, 5] (cn (((!decide (x0.age = 0)) && (!decide (x0.kind = 3))) && (!decide (x0.kind = 4))) (r0 1 [4] [] (rt [] (C89 false))) (.reg 1 [] [] [4, 38] [] [decide (x0.kind = 7), !((decide (x0.kind = 7)) && (decide (x1 = 1))), (!((decide (x0.kind = 7)) && (decide (x1 = 1)))) && (decide (x0.kind = 8)), (decide (x0.kind = 7)) && (decide (x1 = 1))] [gt (!((decide (x0.kind = 7)) && (decide (x1 = 1)))) (gt (decide (x0.kind = 8)) (pf (((!((decide (x0.kind = 7)) && (decide (x1 = 1)))) && (decide (x0.kind = 8))) = true)))] [] [1, 1, 5, 5, 5, 9, 5, 0, 14] (cn (((decide (x0.kind = 7)) && (decide (x1 = 1))) || ((decide (x0.kind = 8)) && (decide (x1 = 2)))) (r0 1 [4] [] (rt [] (C89 false))) (r0 1 [4] [] (rt [] (C89 true)))))))))
theorem ok_impl_stepFits (x0 : Step) (x1 : Int) : FnT Try.prog 89 [.agg (cStep false x0), .int .i64 x1] (C89 (stepFits x0 x1)) := by
  have aux : ∀ R, stepFits x0 x1 = R → slim (C89 R) (A89 x0 x1) [] := by
    intro R hR
    refine rg trivial ?_
    refine rg trivial ?_
    revert hR; refine cd (fun hc1 hR => ?_) fun hc1 hR => ?_
    ·
      refine rg trivial ?_
      exact congrArg C89 hR
    ·
      refine rg trivial ?_
      revert hR; refine cd (fun hc2 hR => ?_) fun hc2 hR => ?_
      ·
        refine rg trivial ?_
        exact congrArg C89 hR
      ·
        refine rg ⟨by ((try clear hR); intros; (try simp only [decide_eq_true_eq, decide_eq_false_iff_not, Bool.or_eq_true, Bool.and_eq_true, or_f_iff, not_f_iff, not_t_iff, Bool.not_eq_true', inR] at *); (repeat' apply And.intro) <;> (intros; omega)), trivial⟩ ?_
        revert hR; refine cd (fun hc3 hR => ?_) fun hc3 hR => ?_
        ·
          refine rg trivial ?_
          exact congrArg C89 hR
        ·
          refine rg trivial ?_
          exact congrArg C89 hR
  exact Fn.go 55 Try.func89 (by kernel_rfl) (by kernel_rfl) (by simp [C89, Frs, FrsL]) (A89 x0 x1) (by kernel_rfl) (aux _ rfl)
def k89 (x0 : Step) (x1 : Int) : Cl := (hres (C89 (stepFits x0 x1)), k0 (ok_impl_stepFits x0 x1))
def C159 (R : Bool) : LV × List (Nat × BC) := (.bool R, [])
def l3Step (x0 : Step) (x1 : Int) : Bool := bif ((!(l1In x0.kind 1 8)) || (!(l1In x0.age 0 2))) then false else (bif (((!decide (x0.age = 0)) && (!decide (x0.kind = 3))) && (!decide (x0.kind = 4))) then false else (((!decide (x0.kind = 7)) || (!decide (x1 = 1))) && ((!decide (x0.kind = 8)) || (!decide (x1 = 2)))))
def A159 (x0 : Step) (x1 : Int) : Ann := r0 1 [1, 2, 4] [2] (.reg 1 [] [(2, k83 x0.kind 1 8), (7, cg (!(!(l1In x0.kind 1 8))) (k83 x0.age 0 2))] [1, 2, 4, 14] [2] [!(!(l1In x0.kind 1 8)), !(l1In x0.kind 1 8)] [] [] [0, 1, 1, 4, 1, 6] (cn ((!(l1In x0.kind 1 8)) || (!(l1In x0.age 0 2))) (r0 1 [1, 2, 4] [2] (rt [] (C159 false))) (.reg 1 [] [] [1, 2, 4, 27] [2] [!decide (x0.age = 0), (!decide (x0.age = 0)) && (!decide (x0.kind = 3))] [] [] [1, 1, 1, 5, 5, 5] (cn (((!decide (x0.age = 0)) && (!decide (x0.kind = 3))) && (!decide (x0.kind = 4))) (r0 1 [1, 2, 4] [2] (rt [] (C159 false))) (.reg 1 [] [] [4] [] [!(!decide (x0.kind = 7)), !decide (x0.kind = 7), (!decide (x0.kind = 7)) || (!decide (x1 = 1)), ((!decide (x0.kind = 7)) || (!decide (x1 = 1))) && (!(!decide (x0.kind = 8)))] [gt ((!decide (x0.kind = 7)) || (!decide (x1 = 1))) (gf (!decide (x0.kind = 8)) (pf ((((!decide (x0.kind = 7)) || (!decide (x1 = 1))) && (!(!decide (x0.kind = 8)))) = true)))] [] [1, 6, 9, 9, 9, 13, 9, 0, 9] (rt [] (C159 (((!decide (x0.kind = 7)) || (!decide (x1 = 1))) && ((!decide (x0.kind = 8)) || (!decide (x1 = 2)))))))))))
theorem ok_spec_l3Step (x0 : Step) (x1 : Int) : FnT Try.prog 159 [.agg (cStep false x0), .int .i64 x1] (C159 (l3Step x0 x1)) := by
  have aux : ∀ R, l3Step x0 x1 = R → slim (C159 R) (A159 x0 x1) [] := by
    intro R hR
    refine rg trivial ?_
    refine rg ⟨trivial, fun hg0 => trivial, trivial⟩ ?_
    revert hR; refine cd (fun hc1 hR => ?_) fun hc1 hR => ?_
    ·
      refine rg trivial ?_
      exact congrArg C159 hR
    ·
      refine rg trivial ?_
      revert hR; refine cd (fun hc2 hR => ?_) fun hc2 hR => ?_
      ·
        refine rg trivial ?_
        exact congrArg C159 hR
      ·
        refine rg ⟨by ((try clear hR); intros; (try simp only [decide_eq_true_eq, decide_eq_false_iff_not, Bool.or_eq_true, Bool.and_eq_true, or_f_iff, not_f_iff, not_t_iff, Bool.not_eq_true', inR] at *); (repeat' apply And.intro) <;> (intros; omega)), trivial⟩ ?_
        exact congrArg C159 hR
  exact Fn.go 44 Try.func159 (by kernel_rfl) (by kernel_rfl) (by simp [C159, Frs, FrsL]) (A159 x0 x1) (by kernel_rfl) (aux _ rfl)
def k159 (x0 : Step) (x1 : Int) : Cl := (hres (C159 (l3Step x0 x1)), k0 (ok_spec_l3Step x0 x1))
def C45 (R : Bool) : LV × List (Nat × BC) := (.bool R, [])
def implIsType (x0 : KinType) : Bool := bif (((decide (x0.ego < 0)) || (decide (2 < x0.ego))) || (decide (8 < ((x0.steps.length : Nat) : Int)))) then false else (loopN (fun i1 (v1 : Int) next => bif (!(stepFits (x0.steps.getD i1 default) v1)) then false else (next (stepSex ((x0.steps.getD i1 default).kind)))) (fun (v1 : Int) => true) x0.steps.length 0 x0.ego)
def D45b1 (x0 : KinType) (i1 : Nat) (v1 : Int) : Dl := ⟨[(25, .int .i64 ((i1 : Nat) : Int)), (3, .int .i64 v1)], []⟩
def A45b1 (x0 : KinType) (i1 : Nat) (v1 : Int) : Ann := r0 1 [2, 3, 23, 24, 25, 26] [] (cn (decide (((i1 : Nat) : Int) < ((x0.steps.length : Nat) : Int))) (r1 1 [2, 3, 5, 23, 24, 25] [5] [pf (0 ≤ (((i1 : Nat) : Int) : Int) ∧ (((i1 : Nat) : Int) : Int) < ((x0.steps.length : Nat) : Int))] [0] (.reg 1 [] [(2, k89 (x0.steps.getD i1 default) v1)] [2, 3, 5, 23, 24, 25, 32] [5] [] [] [] [0] (cn (!(stepFits (x0.steps.getD i1 default) v1)) (r0 1 [2, 3, 5, 23, 24, 25] [5] (rt [] (C45 false))) (.reg 1 [] [(2, k95 ((x0.steps.getD i1 default).kind))] [2, 3, 23, 24, 25] [] [] [] [] [0] (r1 1 [2, 3, 23, 24, 25] [] [pf (inR .i64 (((i1 : Nat) : Int) + 1))] [0] (.next 0 [] (D45b1 x0 (i1 + 1) (stepSex ((x0.steps.getD i1 default).kind))))))))) (r0 1 [2] [] (rt [] (C45 true))))
def A45 (x0 : KinType) : Ann := r0 1 [1, 2] [1] (.reg 1 [] [] [1, 2, 19] [1] [!(decide (x0.ego < 0)), decide (x0.ego < 0), !((decide (x0.ego < 0)) || (decide (2 < x0.ego))), (decide (x0.ego < 0)) || (decide (2 < x0.ego))] [] [] [1, 1, 6, 9, 9, 9, 14] (cn (((decide (x0.ego < 0)) || (decide (2 < x0.ego))) || (decide (8 < ((x0.steps.length : Nat) : Int)))) (r0 1 [1, 2] [1] (rt [] (C45 false))) (r0 1 [1, 2, 3] [1] (r0 1 [2, 3, 23, 24, 25] [] (lp (D45b1 x0) [] [] [] (D45b1 x0 0 x0.ego) (A45b1 x0))))))
theorem ok_impl_IsType (x0 : KinType) (h0 : x0.steps.length ≤ 1048576) : FnT Try.prog 45 [.agg (cKinType false x0)] (C45 (implIsType x0)) := by
  have aux : ∀ R, implIsType x0 = R → slim (C45 R) (A45 x0) [] := by
    intro R hR
    refine rg trivial ?_
    refine rg trivial ?_
    revert hR; refine cd (fun hc1 hR => ?_) fun hc1 hR => ?_
    ·
      refine rg trivial ?_
      exact congrArg C45 hR
    ·
      refine rg trivial ?_
      refine rg trivial ?_
      revert hR; refine lN (fun i v => True) (by trivial) rfl fun i1 v1 F1 hn1 hI1 hR hK1 => ?_
      refine rg trivial ?_
      refine ⟨fun hc2 => ?_, fun hc2 => ?_⟩
      · have hii1 : i1 < x0.steps.length := by have := of_decide_eq_true hc2; omega
        replace hR := loopN_step hR hii1
        refine rg ⟨by (intros; omega), trivial⟩ ?_
        refine rg ⟨trivial, trivial⟩ ?_
        revert hR; refine cd (fun hc3 hR => ?_) fun hc3 hR => ?_
        ·
          refine rg trivial ?_
          exact congrArg C45 hR
        ·
          refine rg ⟨trivial, trivial⟩ ?_
          refine rg ⟨by ( intros; simp only [inR]; omega), trivial⟩ ?_
          exact hK1 (stepSex ((x0.steps.getD i1 default).kind)) hii1 (by trivial) hR
      · obtain rfl : i1 = x0.steps.length := by have := of_decide_eq_false hc2; omega
        replace hR := loopN_end hR (Nat.lt_irrefl _)
        refine rg trivial ?_
        exact congrArg C45 hR
  exact Fn.go 37 Try.func45 (by kernel_rfl) (by kernel_rfl) (by simp [C45, Frs, FrsL]) (A45 x0) (by kernel_rfl) (aux _ rfl)
def k45 (x0 : KinType) : Cl := (hres (C45 (implIsType x0)), k1 (ok_impl_IsType x0))
def C113 (R : Bool) : LV × List (Nat × BC) := (.bool R, [])
def specIsType (x0 : KinType) : Bool := bif ((!(l1In x0.ego 0 2)) || (decide (8 < ((x0.steps.length : Nat) : Int)))) then false else (loopN (fun i1 (v1 : Int) next => bif (!(l3Step (x0.steps.getD i1 default) v1)) then false else (next (l3Sex ((x0.steps.getD i1 default).kind)))) (fun (v1 : Int) => true) x0.steps.length 0 x0.ego)
def D113b1 (x0 : KinType) (i1 : Nat) (v1 : Int) : Dl := ⟨[(21, .int .i64 ((i1 : Nat) : Int)), (3, .int .i64 v1)], []⟩
def A113b1 (x0 : KinType) (i1 : Nat) (v1 : Int) : Ann := r0 1 [2, 3, 19, 20, 21, 22] [] (cn (decide (((i1 : Nat) : Int) < ((x0.steps.length : Nat) : Int))) (r1 1 [2, 3, 5, 19, 20, 21] [5] [pf (0 ≤ (((i1 : Nat) : Int) : Int) ∧ (((i1 : Nat) : Int) : Int) < ((x0.steps.length : Nat) : Int))] [0] (.reg 1 [] [(2, k159 (x0.steps.getD i1 default) v1)] [2, 3, 5, 19, 20, 21, 28] [5] [] [] [] [0] (cn (!(l3Step (x0.steps.getD i1 default) v1)) (r0 1 [2, 3, 5, 19, 20, 21] [5] (rt [] (C113 false))) (.reg 1 [] [(2, k160 ((x0.steps.getD i1 default).kind))] [2, 3, 19, 20, 21] [] [] [] [] [0] (r1 1 [2, 3, 19, 20, 21] [] [pf (inR .i64 (((i1 : Nat) : Int) + 1))] [0] (.next 0 [] (D113b1 x0 (i1 + 1) (l3Sex ((x0.steps.getD i1 default).kind))))))))) (r0 1 [2] [] (rt [] (C113 true))))
def A113 (x0 : KinType) : Ann := r0 1 [1, 2] [1] (.reg 1 [] [(2, k83 x0.ego 0 2)] [1, 2, 15] [1] [!(!(l1In x0.ego 0 2)), !(l1In x0.ego 0 2)] [] [] [0, 1, 1, 1, 6] (cn ((!(l1In x0.ego 0 2)) || (decide (8 < ((x0.steps.length : Nat) : Int)))) (r0 1 [1, 2] [1] (rt [] (C113 false))) (r0 1 [1, 2, 3] [1] (r0 1 [2, 3, 19, 20, 21] [] (lp (D113b1 x0) [] [] [] (D113b1 x0 0 x0.ego) (A113b1 x0))))))
theorem ok_spec_IsType (x0 : KinType) (h0 : x0.steps.length ≤ 1048576) : FnT Try.prog 113 [.agg (cKinType false x0)] (C113 (specIsType x0)) := by
  have aux : ∀ R, specIsType x0 = R → slim (C113 R) (A113 x0) [] := by
    intro R hR
    refine rg trivial ?_
    refine rg ⟨trivial, trivial⟩ ?_
    revert hR; refine cd (fun hc1 hR => ?_) fun hc1 hR => ?_
    ·
      refine rg trivial ?_
      exact congrArg C113 hR
    ·
      refine rg trivial ?_
      refine rg trivial ?_
      revert hR; refine lN (fun i v => True) (by trivial) rfl fun i1 v1 F1 hn1 hI1 hR hK1 => ?_
      refine rg trivial ?_
      refine ⟨fun hc2 => ?_, fun hc2 => ?_⟩
      · have hii1 : i1 < x0.steps.length := by have := of_decide_eq_true hc2; omega
        replace hR := loopN_step hR hii1
        refine rg ⟨by (intros; omega), trivial⟩ ?_
        refine rg ⟨trivial, trivial⟩ ?_
        revert hR; refine cd (fun hc3 hR => ?_) fun hc3 hR => ?_
        ·
          refine rg trivial ?_
          exact congrArg C113 hR
        ·
          refine rg ⟨trivial, trivial⟩ ?_
          refine rg ⟨by ( intros; simp only [inR]; omega), trivial⟩ ?_
          exact hK1 (l3Sex ((x0.steps.getD i1 default).kind)) hii1 (by trivial) hR
      · obtain rfl : i1 = x0.steps.length := by have := of_decide_eq_false hc2; omega
        replace hR := loopN_end hR (Nat.lt_irrefl _)
        refine rg trivial ?_
        exact congrArg C113 hR
  exact Fn.go 33 Try.func113 (by kernel_rfl) (by kernel_rfl) (by simp [C113, Frs, FrsL]) (A113 x0) (by kernel_rfl) (aux _ rfl)
def k113 (x0 : KinType) : Cl := (hres (C113 (specIsType x0)), k1 (ok_spec_IsType x0))
def C90 (R : Int) : LV × List (Nat × BC) := (.int .i64 R, [])
def sexOf (x0 : KinType) : Int := bif (decide (((x0.steps.length : Nat) : Int) = 0)) then x0.ego else (stepSex ((x0.steps.getD ((((x0.steps.length : Nat) : Int) - 1).toNat) default).kind))
def A90 (x0 : KinType) : Ann := r0 1 [1, 2] [1] (r0 1 [1, 2, 6] [1] (cn (decide (((x0.steps.length : Nat) : Int) = 0)) (r0 1 [1, 2] [1] (rt [] (C90 x0.ego))) (.reg 1 [] [(9, k95 ((x0.steps.getD ((((x0.steps.length : Nat) : Int) - 1).toNat) default).kind))] [2] [] [] [pf (inR .i64 (((x0.steps.length : Nat) : Int) - 1)), pf (0 ≤ (((x0.steps.length : Nat) : Int) - 1 : Int) ∧ (((x0.steps.length : Nat) : Int) - 1 : Int) < ((x0.steps.length : Nat) : Int))] [] [0, 4, 8] (rt [] (C90 (stepSex ((x0.steps.getD ((((x0.steps.length : Nat) : Int) - 1).toNat) default).kind)))))))
theorem ok_impl_sexOf (x0 : KinType) (h0 : x0.steps.length ≤ 1048576) : FnT Try.prog 90 [.agg (cKinType false x0)] (C90 (sexOf x0)) := by
  have aux : ∀ R, sexOf x0 = R → slim (C90 R) (A90 x0) [] := by
    intro R hR
    refine rg trivial ?_
    refine rg trivial ?_
    revert hR; refine cd (fun hc1 hR => ?_) fun hc1 hR => ?_
    ·
      refine rg trivial ?_
      exact congrArg C90 hR
    ·
      refine rg ⟨by ( intros; simp only [inR]; omega), by ((try clear hR); intros; (try simp only [decide_eq_true_eq, decide_eq_false_iff_not, Bool.or_eq_true, Bool.and_eq_true, or_f_iff, not_f_iff, not_t_iff, Bool.not_eq_true', inR] at *); (repeat' apply And.intro) <;> (intros; omega)), trivial, trivial⟩ ?_
      exact congrArg C90 hR
  exact Fn.go 19 Try.func90 (by kernel_rfl) (by kernel_rfl) (by simp [C90, Frs, FrsL]) (A90 x0) (by kernel_rfl) (aux _ rfl)
def k90 (x0 : KinType) : Cl := (hres (C90 (sexOf x0)), k1 (ok_impl_sexOf x0))
def C218 (R : Int) : LV × List (Nat × BC) := (.int .i64 R, [])
def l3Last (x0 : KinType) : Int := bif (decide (((x0.steps.length : Nat) : Int) = 0)) then x0.ego else (l3Sex ((x0.steps.getD ((((x0.steps.length : Nat) : Int) - 1).toNat) default).kind))
def A218 (x0 : KinType) : Ann := r0 1 [1, 2] [1] (r0 1 [1, 2, 6] [1] (cn (decide (((x0.steps.length : Nat) : Int) = 0)) (r0 1 [1, 2] [1] (rt [] (C218 x0.ego))) (.reg 1 [] [(9, k160 ((x0.steps.getD ((((x0.steps.length : Nat) : Int) - 1).toNat) default).kind))] [2] [] [] [pf (inR .i64 (((x0.steps.length : Nat) : Int) - 1)), pf (0 ≤ (((x0.steps.length : Nat) : Int) - 1 : Int) ∧ (((x0.steps.length : Nat) : Int) - 1 : Int) < ((x0.steps.length : Nat) : Int))] [] [0, 4, 8] (rt [] (C218 (l3Sex ((x0.steps.getD ((((x0.steps.length : Nat) : Int) - 1).toNat) default).kind)))))))
theorem ok_spec_l3Last (x0 : KinType) (h0 : x0.steps.length ≤ 1048576) : FnT Try.prog 218 [.agg (cKinType false x0)] (C218 (l3Last x0)) := by
  have aux : ∀ R, l3Last x0 = R → slim (C218 R) (A218 x0) [] := by
    intro R hR
    refine rg trivial ?_
    refine rg trivial ?_
    revert hR; refine cd (fun hc1 hR => ?_) fun hc1 hR => ?_
    ·
      refine rg trivial ?_
      exact congrArg C218 hR
    ·
      refine rg ⟨by ( intros; simp only [inR]; omega), by ((try clear hR); intros; (try simp only [decide_eq_true_eq, decide_eq_false_iff_not, Bool.or_eq_true, Bool.and_eq_true, or_f_iff, not_f_iff, not_t_iff, Bool.not_eq_true', inR] at *); (repeat' apply And.intro) <;> (intros; omega)), trivial, trivial⟩ ?_
      exact congrArg C218 hR
  exact Fn.go 19 Try.func218 (by kernel_rfl) (by kernel_rfl) (by simp [C218, Frs, FrsL]) (A218 x0) (by kernel_rfl) (aux _ rfl)
def k218 (x0 : KinType) : Cl := (hres (C218 (l3Last x0)), k1 (ok_spec_l3Last x0))
end Go.Proofs.Ytaageiiodlfeiaa
