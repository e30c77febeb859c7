import Derived.Test.YtaageiiodlfeiaaVR1
set_option maxHeartbeats 4000000
set_option linter.unusedSimpArgs false
set_option linter.unusedVariables false
namespace Go.Proofs.Ytaageiiodlfeiaa
open Go Go.Lite Go.Proofs
structure Rule where
  name : List UInt8
  sex : Int
  place : Int
  from0 : List Step
  to : List Step
  deriving Inhabited
def cRule (fr : Bool) (x : Rule) : List LV := cStr x.name ++ cInt .i64 x.sex ++ cInt .i64 x.place ++ cSl fr 2 (cStep fr) x.from0 ++ cSl fr 2 (cStep fr) x.to

def C221 (R : Int) : LV × List (Nat × BC) := (.int .i64 R, [])
def compareInts (x0 : Int) (x1 : Int) : Int := bif (decide (x0 < x1)) then (-1) else (bif (decide (x1 < x0)) then 1 else 0)
def A221 (x0 : Int) (x1 : Int) : Ann := r0 1 [0, 1, 4] [] (r0 1 [0, 1, 4, 5] [] (cn (decide (x0 < x1)) (r0 1 [4] [] (rt [] (C221 (-1)))) (r0 1 [4, 9] [] (cn (decide (x1 < x0)) (r0 1 [4] [] (rt [] (C221 1))) (r0 1 [4] [] (rt [] (C221 0)))))))
theorem ok_impl_compareInts (x0 : Int) (x1 : Int) : FnT Try.prog 221 [.int .i64 x0, .int .i64 x1] (C221 (compareInts x0 x1)) := by
  have aux : ∀ R, compareInts x0 x1 = R → slim (C221 R) (A221 x0 x1) [] := by
    intro R hR
    refine rg trivial ?_
    refine rg trivial ?_
    revert hR; refine cd (fun hc1 hR => ?_) fun hc1 hR => ?_
    ·
      refine rg trivial ?_
      exact congrArg C221 hR
    ·
      refine rg trivial ?_
      revert hR; refine cd (fun hc2 hR => ?_) fun hc2 hR => ?_
      ·
        refine rg trivial ?_
        exact congrArg C221 hR
      ·
        refine rg trivial ?_
        exact congrArg C221 hR
  exact Fn.go 13 Try.func221 (by kernel_rfl) (by kernel_rfl) (by simp [C221, Frs, FrsL]) (A221 x0 x1) (by kernel_rfl) (aux _ rfl)
def k221 (x0 : Int) (x1 : Int) : Cl := (hres (C221 (compareInts x0 x1)), k0 (ok_impl_compareInts x0 x1))
def C203 (R : Int) : LV × List (Nat × BC) := (.int .i64 R, [])
def compareSteps (x0 : List Step) (x1 : List Step) : Int := loopW (fun (v1 : Int) next => bif ((decide (v1 < ((x0.length : Nat) : Int))) && (decide (v1 < ((x1.length : Nat) : Int)))) then (bif (!decide (((x0.getD v1.toNat default).kind) = ((x1.getD v1.toNat default).kind))) then (compareInts ((x0.getD v1.toNat default).kind) ((x1.getD v1.toNat default).kind)) else (bif (!decide (((x0.getD v1.toNat default).age) = ((x1.getD v1.toNat default).age))) then (compareInts ((x0.getD v1.toNat default).age) ((x1.getD v1.toNat default).age)) else (next (v1 + 1)))) else (compareInts ((x0.length : Nat) : Int) ((x1.length : Nat) : Int))) (((x0.length : Int) - 0).toNat + 1) 0
def D203b1 (x0 : List Step) (x1 : List Step) (v1 : Int) : Dl := ⟨[(5, .int .i64 v1)], []⟩
def A203b1 (x0 : List Step) (x1 : List Step) (v1 : Int) : Ann := .reg 1 [] [] [0, 1, 4, 5, 15] [] [decide (v1 < ((x0.length : Nat) : Int))] [] [] [1, 1, 1, 1] (cn ((decide (v1 < ((x0.length : Nat) : Int))) && (decide (v1 < ((x1.length : Nat) : Int)))) (r1 1 [0, 1, 4, 5, 18] [] [pf (0 ≤ (v1 : Int) ∧ (v1 : Int) < ((x0.length : Nat) : Int)), pf (0 ≤ (v1 : Int) ∧ (v1 : Int) < ((x1.length : Nat) : Int))] [0, 4] (cn (!decide (((x0.getD v1.toNat default).kind) = ((x1.getD v1.toNat default).kind))) (.reg 1 [] [(10, k221 ((x0.getD v1.toNat default).kind) ((x1.getD v1.toNat default).kind))] [0, 1, 4, 5] [] [] [pf (0 ≤ (v1 : Int) ∧ (v1 : Int) < ((x0.length : Nat) : Int)), pf (0 ≤ (v1 : Int) ∧ (v1 : Int) < ((x1.length : Nat) : Int))] [] [0, 4, 8] (rt [] (C203 (compareInts ((x0.getD v1.toNat default).kind) ((x1.getD v1.toNat default).kind))))) (r1 1 [0, 1, 4, 5, 41] [] [pf (0 ≤ (v1 : Int) ∧ (v1 : Int) < ((x0.length : Nat) : Int)), pf (0 ≤ (v1 : Int) ∧ (v1 : Int) < ((x1.length : Nat) : Int))] [0, 4] (cn (!decide (((x0.getD v1.toNat default).age) = ((x1.getD v1.toNat default).age))) (.reg 1 [] [(10, k221 ((x0.getD v1.toNat default).age) ((x1.getD v1.toNat default).age))] [0, 1, 4, 5] [] [] [pf (0 ≤ (v1 : Int) ∧ (v1 : Int) < ((x0.length : Nat) : Int)), pf (0 ≤ (v1 : Int) ∧ (v1 : Int) < ((x1.length : Nat) : Int))] [] [0, 4, 8] (rt [] (C203 (compareInts ((x0.getD v1.toNat default).age) ((x1.getD v1.toNat default).age))))) (r1 1 [0, 1, 4, 5] [] [pf (inR .i64 (v1 + 1))] [0] (.next 0 [] (D203b1 x0 x1 (v1 + 1)))))))) (.reg 1 [] [(4, k221 ((x0.length : Nat) : Int) ((x1.length : Nat) : Int))] [4] [] [] [] [] [0] (rt [] (C203 (compareInts ((x0.length : Nat) : Int) ((x1.length : Nat) : Int))))))
def A203 (x0 : List Step) (x1 : List Step) : Ann := r0 1 [0, 1, 4] [] (r0 1 [0, 1, 4, 5] [] (.loop Int (D203b1 x0 x1) [] [] [] (D203b1 x0 x1 0) (A203b1 x0 x1)))
theorem ok_impl_compareSteps (x0 : List Step) (x1 : List Step) (h0 : x0.length ≤ 1048576) (h1 : x1.length ≤ 1048576) : FnT Try.prog 203 [.ro false 2 x0.length (rowOf (cStep false) x0), .ro false 2 x1.length (rowOf (cStep false) x1)] (C203 (compareSteps x0 x1)) := by
  have aux : ∀ R, compareSteps x0 x1 = R → slim (C203 R) (A203 x0 x1) [] := by
    intro R hR
    refine rg trivial ?_
    refine rg trivial ?_
    revert hR; refine lW (fun v => 0 ≤ v ∧ v ≤ x0.length) (fun v => ((x0.length : Int) - v).toNat) (by (intros; omega)) (Nat.lt_succ_self _) rfl fun m1 v1 F1 hI1 hM1 hR hK1 => ?_
    refine rg trivial ?_
    revert hR; refine cd (fun hc1 hR => ?_) fun hc1 hR => ?_
    ·
      refine rg ⟨by (simp only [Bool.and_eq_true, decide_eq_true_eq] at hc1; (try simp only [inR]); omega), by (simp only [Bool.and_eq_true, decide_eq_true_eq] at hc1; (try simp only [inR]); omega), trivial⟩ ?_
      revert hR; refine cd (fun hc2 hR => ?_) fun hc2 hR => ?_
      ·
        refine rg ⟨by (simp only [Bool.and_eq_true, decide_eq_true_eq] at hc1; (try simp only [inR]); omega), by (simp only [Bool.and_eq_true, decide_eq_true_eq] at hc1; (try simp only [inR]); omega), trivial, trivial⟩ ?_
        exact congrArg C203 hR
      ·
        refine rg ⟨by (simp only [Bool.and_eq_true, decide_eq_true_eq] at hc1; (try simp only [inR]); omega), by (simp only [Bool.and_eq_true, decide_eq_true_eq] at hc1; (try simp only [inR]); omega), trivial⟩ ?_
        revert hR; refine cd (fun hc3 hR => ?_) fun hc3 hR => ?_
        ·
          refine rg ⟨by (simp only [Bool.and_eq_true, decide_eq_true_eq] at hc1; (try simp only [inR]); omega), by (simp only [Bool.and_eq_true, decide_eq_true_eq] at hc1; (try simp only [inR]); omega), trivial, trivial⟩ ?_
          exact congrArg C203 hR
        ·
          refine rg ⟨by ( intros; simp only [inR]; omega), trivial⟩ ?_
          exact hK1 (v1 + 1) (by (simp only [Bool.and_eq_true, decide_eq_true_eq] at hc1; (try simp only [inR]); omega)) (by (simp only [Bool.and_eq_true, decide_eq_true_eq] at hc1; (try simp only [inR]); omega)) hR
    ·
      refine rg ⟨trivial, trivial⟩ ?_
      exact congrArg C203 hR
  exact Fn.go 69 Try.func203 (by kernel_rfl) (by kernel_rfl) (by simp [C203, Frs, FrsL]) (A203 x0 x1) (by kernel_rfl) (aux _ rfl)
def k203 (x0 : List Step) (x1 : List Step) : Cl := (hres (C203 (compareSteps x0 x1)), k2 (ok_impl_compareSteps x0 x1))
def C217 (R : Bool) : LV × List (Nat × BC) := (.bool R, [])
def l4Before (x0 : List Step) (x1 : List Step) : Bool := bif (!decide (((x0.length : Nat) : Int) = ((x1.length : Nat) : Int))) then (decide (((x0.length : Nat) : Int) < ((x1.length : Nat) : Int))) else (loopN (fun i1 (v1 : Unit) next => bif (!decide (((x0.getD i1 default).kind) = ((x1.getD i1 default).kind))) then (decide (((x0.getD i1 default).kind) < ((x1.getD i1 default).kind))) else (bif (!decide (((x0.getD i1 default).age) = ((x1.getD i1 default).age))) then (decide (((x0.getD i1 default).age) < ((x1.getD i1 default).age))) else (next ()))) (fun (v1 : Unit) => false) x0.length 0 ())
def D217b1 (x0 : List Step) (x1 : List Step) (i1 : Nat) (v1 : Unit) : Dl := ⟨[(18, .int .i64 ((i1 : Nat) : Int))], []⟩
def A217b1 (x0 : List Step) (x1 : List Step) (i1 : Nat) (v1 : Unit) : Ann := r0 1 [0, 1, 4, 17, 18, 19] [] (cn (decide (((i1 : Nat) : Int) < ((x0.length : Nat) : Int))) (r0 1 [0, 1, 4, 5, 17, 18] [] (r1 1 [0, 1, 4, 5, 17, 18, 31] [] [pf (0 ≤ (((i1 : Nat) : Int) : Int) ∧ (((i1 : Nat) : Int) : Int) < ((x0.length : Nat) : Int)), pf (0 ≤ (((i1 : Nat) : Int) : Int) ∧ (((i1 : Nat) : Int) : Int) < ((x1.length : Nat) : Int))] [0, 4] (cn (!decide (((x0.getD i1 default).kind) = ((x1.getD i1 default).kind))) (r1 1 [0, 1, 4, 5, 17, 18] [] [pf (0 ≤ (((i1 : Nat) : Int) : Int) ∧ (((i1 : Nat) : Int) : Int) < ((x0.length : Nat) : Int)), pf (0 ≤ (((i1 : Nat) : Int) : Int) ∧ (((i1 : Nat) : Int) : Int) < ((x1.length : Nat) : Int))] [0, 4] (rt [] (C217 (decide (((x0.getD i1 default).kind) < ((x1.getD i1 default).kind)))))) (r1 1 [0, 1, 4, 5, 17, 18, 53] [] [pf (0 ≤ (((i1 : Nat) : Int) : Int) ∧ (((i1 : Nat) : Int) : Int) < ((x0.length : Nat) : Int)), pf (0 ≤ (((i1 : Nat) : Int) : Int) ∧ (((i1 : Nat) : Int) : Int) < ((x1.length : Nat) : Int))] [0, 4] (cn (!decide (((x0.getD i1 default).age) = ((x1.getD i1 default).age))) (r1 1 [0, 1, 4, 17, 18] [] [pf (0 ≤ (((i1 : Nat) : Int) : Int) ∧ (((i1 : Nat) : Int) : Int) < ((x0.length : Nat) : Int)), pf (0 ≤ (((i1 : Nat) : Int) : Int) ∧ (((i1 : Nat) : Int) : Int) < ((x1.length : Nat) : Int))] [0, 4] (rt [] (C217 (decide (((x0.getD i1 default).age) < ((x1.getD i1 default).age)))))) (r1 1 [0, 1, 4, 17, 18] [] [pf (inR .i64 (((i1 : Nat) : Int) + 1))] [0] (.next 0 [] (D217b1 x0 x1 (i1 + 1) ())))))))) (r0 1 [4] [] (rt [] (C217 false))))
def A217 (x0 : List Step) (x1 : List Step) : Ann := r0 1 [0, 1, 4] [] (r0 1 [0, 1, 4, 10] [] (cn (!decide (((x0.length : Nat) : Int) = ((x1.length : Nat) : Int))) (r0 1 [0, 1, 4] [] (rt [] (C217 (decide (((x0.length : Nat) : Int) < ((x1.length : Nat) : Int)))))) (r0 1 [0, 1, 4, 17, 18] [] (lp (D217b1 x0 x1) [] [] [] (D217b1 x0 x1 0 ()) (A217b1 x0 x1)))))
theorem ok_spec_l4Before (x0 : List Step) (x1 : List Step) (h0 : x0.length ≤ 1048576) (h1 : x1.length ≤ 1048576) : FnT Try.prog 217 [.ro false 2 x0.length (rowOf (cStep false) x0), .ro false 2 x1.length (rowOf (cStep false) x1)] (C217 (l4Before x0 x1)) := by
  have aux : ∀ R, l4Before x0 x1 = R → slim (C217 R) (A217 x0 x1) [] := by
    intro R hR
    refine rg trivial ?_
    refine rg trivial ?_
    revert hR; refine cd (fun hc1 hR => ?_) fun hc1 hR => ?_
    ·
      refine rg trivial ?_
      exact congrArg C217 hR
    ·
      refine rg trivial ?_
      revert hR; refine lN (fun i v => True) (by trivial) rfl fun i1 v1 F1 hn1 hI1 hR hK1 => ?_
      refine rg trivial ?_
      refine ⟨fun hc2 => ?_, fun hc2 => ?_⟩
      · have hii1 : i1 < x0.length := by have := of_decide_eq_true hc2; omega
        replace hR := loopN_step hR hii1
        refine rg trivial ?_
        refine rg ⟨by (intros; omega), by ((try clear hR hK1); intros; (try simp only [decide_eq_true_eq, decide_eq_false_iff_not, Bool.or_eq_true, Bool.and_eq_true, or_f_iff, not_f_iff, not_t_iff, Bool.not_eq_true', inR] at *); (repeat' apply And.intro) <;> (intros; omega)), trivial⟩ ?_
        revert hR; refine cd (fun hc3 hR => ?_) fun hc3 hR => ?_
        ·
          refine rg ⟨by (intros; omega), by ((try clear hR hK1); intros; (try simp only [decide_eq_true_eq, decide_eq_false_iff_not, Bool.or_eq_true, Bool.and_eq_true, or_f_iff, not_f_iff, not_t_iff, Bool.not_eq_true', inR] at *); (repeat' apply And.intro) <;> (intros; omega)), trivial⟩ ?_
          exact congrArg C217 hR
        ·
          refine rg ⟨by (intros; omega), by ((try clear hR hK1); intros; (try simp only [decide_eq_true_eq, decide_eq_false_iff_not, Bool.or_eq_true, Bool.and_eq_true, or_f_iff, not_f_iff, not_t_iff, Bool.not_eq_true', inR] at *); (repeat' apply And.intro) <;> (intros; omega)), trivial⟩ ?_
          revert hR; refine cd (fun hc4 hR => ?_) fun hc4 hR => ?_
          ·
            refine rg ⟨by (intros; omega), by ((try clear hR hK1); intros; (try simp only [decide_eq_true_eq, decide_eq_false_iff_not, Bool.or_eq_true, Bool.and_eq_true, or_f_iff, not_f_iff, not_t_iff, Bool.not_eq_true', inR] at *); (repeat' apply And.intro) <;> (intros; omega)), trivial⟩ ?_
            exact congrArg C217 hR
          ·
            refine rg ⟨by ( intros; simp only [inR]; omega), trivial⟩ ?_
            exact hK1 () hii1 (by trivial) hR
      · obtain rfl : i1 = x0.length := by have := of_decide_eq_false hc2; omega
        replace hR := loopN_end hR (Nat.lt_irrefl _)
        refine rg trivial ?_
        exact congrArg C217 hR
  exact Fn.go 66 Try.func217 (by kernel_rfl) (by kernel_rfl) (by simp [C217, Frs, FrsL]) (A217 x0 x1) (by kernel_rfl) (aux _ rfl)
def k217 (x0 : List Step) (x1 : List Step) : Cl := (hres (C217 (l4Before x0 x1)), k2 (ok_spec_l4Before x0 x1))
def C165 (R : Bool) : LV × List (Nat × BC) := (.bool R, [])
def implIsRule (x0 : Rule) : Bool := bif (((((((!(implIsName x0.name)) || (decide (x0.sex < 0))) || (decide (2 < x0.sex))) || (decide (x0.place < 0))) || (decide (2 < x0.place))) || (decide (((x0.from0.length : Nat) : Int) < 1))) || (decide (4 < ((x0.from0.length : Nat) : Int)))) then false else (bif ((decide (((x0.from0.length : Nat) : Int) < ((x0.to.length : Nat) : Int))) || ((decide (((x0.to.length : Nat) : Int) = ((x0.from0.length : Nat) : Int))) && (decide (0 ≤ (compareSteps x0.to x0.from0))))) then false else (loopW (fun (v1 : Bool × Int) next => bif (decide (v1.2 ≤ 2)) then (bif (((!decide (x0.sex = 0)) && (!decide (x0.sex = v1.2))) || (!(implIsType (KinType.mk v1.2 x0.from0)))) then (next (v1.1, v1.2 + 1)) else (bif ((!(implIsType (KinType.mk v1.2 x0.to))) || (!decide ((sexOf (KinType.mk v1.2 x0.from0)) = (sexOf (KinType.mk v1.2 x0.to))))) then false else (next (true, v1.2 + 1)))) else v1.1) ((3 - (1 : Int)).toNat + 1) (false, 1)))
def D165b1 (x0 : Rule) (v1 : Bool × Int) : Dl := ⟨[(3, .bool v1.1), (4, .int .i64 v1.2)], []⟩
def A165b1 (x0 : Rule) (v1 : Bool × Int) : Ann := r0 1 [1, 2, 3, 4, 68] [1] (cn (decide (v1.2 ≤ 2)) (r0 1 [1, 2, 3, 4, 5, 6] [1, 5, 6] (.reg 1 [] [(11, cg (!((!decide (x0.sex = 0)) && (!decide (x0.sex = v1.2)))) (k45 (KinType.mk v1.2 x0.from0)))] [1, 2, 3, 4, 5, 6, 92] [1, 5, 6] [!decide (x0.sex = 0), !((!decide (x0.sex = 0)) && (!decide (x0.sex = v1.2))), (!decide (x0.sex = 0)) && (!decide (x0.sex = v1.2))] [] [] [1, 1, 1, 1, 5, 0, 5, 10] (cn (((!decide (x0.sex = 0)) && (!decide (x0.sex = v1.2))) || (!(implIsType (KinType.mk v1.2 x0.from0)))) (r1 1 [1, 2, 3, 4] [1] [pf (inR .i64 (v1.2 + 1))] [0] (.next 0 [] (D165b1 x0 (v1.1, v1.2 + 1)))) (.reg 1 [] [(1, k45 (KinType.mk v1.2 x0.to)), (5, cg (!(!(implIsType (KinType.mk v1.2 x0.to)))) (k90 (KinType.mk v1.2 x0.from0))), (7, cg (!(!(implIsType (KinType.mk v1.2 x0.to)))) (k90 (KinType.mk v1.2 x0.to)))] [1, 2, 3, 4, 102] [1] [!(!(implIsType (KinType.mk v1.2 x0.to))), !(implIsType (KinType.mk v1.2 x0.to))] [] [] [0, 1, 4, 1, 8, 1, 1, 6] (cn ((!(implIsType (KinType.mk v1.2 x0.to))) || (!decide ((sexOf (KinType.mk v1.2 x0.from0)) = (sexOf (KinType.mk v1.2 x0.to))))) (r0 1 [1, 2, 3, 4] [1] (rt [] (C165 false))) (r0 1 [1, 2, 3, 4] [1] (r1 1 [1, 2, 3, 4] [1] [pf (inR .i64 (v1.2 + 1))] [0] (.next 0 [] (D165b1 x0 (true, v1.2 + 1)))))))))) (r0 1 [2] [] (rt [] (C165 v1.1))))
def A165 (x0 : Rule) : Ann := r0 1 [1, 2] [1] (.reg 1 [] [(2, k138 x0.name)] [1, 2, 42] [1] [!(!(implIsName x0.name)), !(implIsName x0.name), !((!(implIsName x0.name)) || (decide (x0.sex < 0))), (!(implIsName x0.name)) || (decide (x0.sex < 0)), !(((!(implIsName x0.name)) || (decide (x0.sex < 0))) || (decide (2 < x0.sex))), ((!(implIsName x0.name)) || (decide (x0.sex < 0))) || (decide (2 < x0.sex)), !((((!(implIsName x0.name)) || (decide (x0.sex < 0))) || (decide (2 < x0.sex))) || (decide (x0.place < 0))), (((!(implIsName x0.name)) || (decide (x0.sex < 0))) || (decide (2 < x0.sex))) || (decide (x0.place < 0)), !(((((!(implIsName x0.name)) || (decide (x0.sex < 0))) || (decide (2 < x0.sex))) || (decide (x0.place < 0))) || (decide (2 < x0.place))), ((((!(implIsName x0.name)) || (decide (x0.sex < 0))) || (decide (2 < x0.sex))) || (decide (x0.place < 0))) || (decide (2 < x0.place)), !((((((!(implIsName x0.name)) || (decide (x0.sex < 0))) || (decide (2 < x0.sex))) || (decide (x0.place < 0))) || (decide (2 < x0.place))) || (decide (((x0.from0.length : Nat) : Int) < 1))), (((((!(implIsName x0.name)) || (decide (x0.sex < 0))) || (decide (2 < x0.sex))) || (decide (x0.place < 0))) || (decide (2 < x0.place))) || (decide (((x0.from0.length : Nat) : Int) < 1))] [] [] [0, 1, 1, 6, 9, 9, 14, 17, 17, 22, 25, 25, 30, 33, 33, 33, 38, 41, 41, 41, 46] (cn (((((((!(implIsName x0.name)) || (decide (x0.sex < 0))) || (decide (2 < x0.sex))) || (decide (x0.place < 0))) || (decide (2 < x0.place))) || (decide (((x0.from0.length : Nat) : Int) < 1))) || (decide (4 < ((x0.from0.length : Nat) : Int)))) (r0 1 [1, 2] [1] (rt [] (C165 false))) (.reg 1 [] [(20, cg ((!(decide (((x0.from0.length : Nat) : Int) < ((x0.to.length : Nat) : Int)))) && (decide (((x0.to.length : Nat) : Int) = ((x0.from0.length : Nat) : Int)))) (k203 x0.to x0.from0))] [1, 2, 66] [1] [!(decide (((x0.from0.length : Nat) : Int) < ((x0.to.length : Nat) : Int))), (!(decide (((x0.from0.length : Nat) : Int) < ((x0.to.length : Nat) : Int)))) && (decide (((x0.to.length : Nat) : Int) = ((x0.from0.length : Nat) : Int))), decide (((x0.from0.length : Nat) : Int) < ((x0.to.length : Nat) : Int))] [gt (!(decide (((x0.from0.length : Nat) : Int) < ((x0.to.length : Nat) : Int)))) (gt (decide (((x0.to.length : Nat) : Int) = ((x0.from0.length : Nat) : Int))) (pf (((!(decide (((x0.from0.length : Nat) : Int) < ((x0.to.length : Nat) : Int)))) && (decide (((x0.to.length : Nat) : Int) = ((x0.from0.length : Nat) : Int)))) = true)))] [] [1, 1, 1, 1, 1, 1, 1, 5, 5, 5, 5, 4, 5, 1, 0, 10] (cn ((decide (((x0.from0.length : Nat) : Int) < ((x0.to.length : Nat) : Int))) || ((decide (((x0.to.length : Nat) : Int) = ((x0.from0.length : Nat) : Int))) && (decide (0 ≤ (compareSteps x0.to x0.from0))))) (r0 1 [1, 2] [1] (rt [] (C165 false))) (r0 1 [1, 2, 3] [1] (r0 1 [1, 2, 3, 4] [1] (.loop (Bool × Int) (D165b1 x0) [] [] [] (D165b1 x0 (false, 1)) (A165b1 x0))))))))
theorem ok_impl_IsRule (x0 : Rule) (hr : x0.name.length ≤ 1048576 ∧ x0.from0.length ≤ 1048576 ∧ x0.to.length ≤ 1048576) : FnT Try.prog 165 [.agg (cRule false x0)] (C165 (implIsRule x0)) := by
  have aux : ∀ R, implIsRule x0 = R → slim (C165 R) (A165 x0) [] := by
    intro R hR
    refine rg trivial ?_
    refine rg ⟨by (intros; omega), trivial⟩ ?_
    revert hR; refine cd (fun hc1 hR => ?_) fun hc1 hR => ?_
    ·
      refine rg trivial ?_
      exact congrArg C165 hR
    ·
      refine rg ⟨by ((try clear hR); intros; (try simp only [decide_eq_true_eq, decide_eq_false_iff_not, Bool.or_eq_true, Bool.and_eq_true, or_f_iff, not_f_iff, not_t_iff, Bool.not_eq_true', inR] at *); (repeat' apply And.intro) <;> (intros; omega)), fun hg0 => ⟨by (intros; omega), by (intros; omega)⟩, trivial⟩ ?_
      revert hR; refine cd (fun hc2 hR => ?_) fun hc2 hR => ?_
      ·
        refine rg trivial ?_
        exact congrArg C165 hR
      ·
        refine rg trivial ?_
        refine rg trivial ?_
        revert hR; refine lW (fun v => 1 ≤ v.2 ∧ v.2 ≤ 3) (fun v => (3 - (v.2 : Int)).toNat) (by trivial) (Nat.lt_succ_self _) rfl fun m1 v1 F1 hI1 hM1 hR hK1 => ?_
        refine rg trivial ?_
        revert hR; refine cd (fun hc3 hR => ?_) fun hc3 hR => ?_
        ·
          refine rg trivial ?_
          refine rg ⟨fun hg0 => by ( intros; simp only [inR]; omega), trivial⟩ ?_
          revert hR; refine cd (fun hc4 hR => ?_) fun hc4 hR => ?_
          ·
            refine rg ⟨by ( intros; simp only [inR]; omega), trivial⟩ ?_
            exact hK1 (v1.1, v1.2 + 1) (by ((try clear hR hK1); intros; (try simp only [decide_eq_true_eq, decide_eq_false_iff_not, Bool.or_eq_true, Bool.and_eq_true, or_f_iff, not_f_iff, not_t_iff, Bool.not_eq_true', inR] at *); (repeat' apply And.intro) <;> (intros; omega))) (by ((try clear hR hK1); intros; (try simp only [decide_eq_true_eq, decide_eq_false_iff_not, Bool.or_eq_true, Bool.and_eq_true, or_f_iff, not_f_iff, not_t_iff, Bool.not_eq_true', inR] at *); (repeat' apply And.intro) <;> (intros; omega))) hR
          ·
            refine rg ⟨by ( intros; simp only [inR]; omega), fun hg0 => by ( intros; simp only [inR]; omega), fun hg0 => by ( intros; simp only [inR]; omega), trivial⟩ ?_
            revert hR; refine cd (fun hc5 hR => ?_) fun hc5 hR => ?_
            ·
              refine rg trivial ?_
              exact congrArg C165 hR
            ·
              refine rg trivial ?_
              refine rg ⟨by ( intros; simp only [inR]; omega), trivial⟩ ?_
              exact hK1 (true, v1.2 + 1) (by ((try clear hR hK1); intros; (try simp only [decide_eq_true_eq, decide_eq_false_iff_not, Bool.or_eq_true, Bool.and_eq_true, or_f_iff, not_f_iff, not_t_iff, Bool.not_eq_true', inR] at *); (repeat' apply And.intro) <;> (intros; omega))) (by ((try clear hR hK1); intros; (try simp only [decide_eq_true_eq, decide_eq_false_iff_not, Bool.or_eq_true, Bool.and_eq_true, or_f_iff, not_f_iff, not_t_iff, Bool.not_eq_true', inR] at *); (repeat' apply And.intro) <;> (intros; omega))) hR
        ·
          refine rg trivial ?_
          exact congrArg C165 hR
  exact Fn.go 104 Try.func165 (by kernel_rfl) (by kernel_rfl) (by simp [C165, Frs, FrsL]) (A165 x0) (by kernel_rfl) (aux _ rfl)
def k165 (x0 : Rule) : Cl := (hres (C165 (implIsRule x0)), k1 (ok_impl_IsRule x0))
def C199 (R : Bool) : LV × List (Nat × BC) := (.bool R, [])
def specIsRule (x0 : Rule) : Bool := bif (((!(specIsName x0.name)) || (!(l1In x0.sex 0 2))) || (!(l1In x0.place 0 2))) then false else (bif ((!(l1In ((x0.from0.length : Nat) : Int) 1 4)) || (!(l4Before x0.to x0.from0))) then false else (loopW (fun (v1 : Bool × Int) next => bif (decide (v1.2 ≤ 2)) then (bif (((!decide (x0.sex = 0)) && (!decide (x0.sex = v1.2))) || (!(specIsType (KinType.mk v1.2 x0.from0)))) then (next (v1.1, v1.2 + 1)) else (bif ((!(specIsType (KinType.mk v1.2 x0.to))) || (!decide ((l3Last (KinType.mk v1.2 x0.to)) = (l3Last (KinType.mk v1.2 x0.from0))))) then false else (next (true, v1.2 + 1)))) else v1.1) ((3 - (1 : Int)).toNat + 1) (false, 1)))
def D199b1 (x0 : Rule) (v1 : Bool × Int) : Dl := ⟨[(3, .bool v1.1), (4, .int .i64 v1.2)], []⟩
def A199b1 (x0 : Rule) (v1 : Bool × Int) : Ann := r0 1 [1, 2, 3, 4, 37] [1] (cn (decide (v1.2 ≤ 2)) (r0 2 [1, 2, 3, 4, 5, 6] [1, 5, 6] (.reg 1 [] [(11, cg (!((!decide (x0.sex = 0)) && (!decide (x0.sex = v1.2)))) (k113 (KinType.mk v1.2 x0.from0)))] [1, 2, 3, 4, 5, 6, 61] [1, 5, 6] [!decide (x0.sex = 0), !((!decide (x0.sex = 0)) && (!decide (x0.sex = v1.2))), (!decide (x0.sex = 0)) && (!decide (x0.sex = v1.2))] [] [] [1, 1, 1, 1, 5, 0, 5, 10] (cn (((!decide (x0.sex = 0)) && (!decide (x0.sex = v1.2))) || (!(specIsType (KinType.mk v1.2 x0.from0)))) (r1 1 [1, 2, 3, 4] [1] [pf (inR .i64 (v1.2 + 1))] [0] (.next 0 [] (D199b1 x0 (v1.1, v1.2 + 1)))) (.reg 2 [] [(1001, k113 (KinType.mk v1.2 x0.to)), (1005, cg (!(!(specIsType (KinType.mk v1.2 x0.to)))) (k218 (KinType.mk v1.2 x0.to))), (1007, cg (!(!(specIsType (KinType.mk v1.2 x0.to)))) (k218 (KinType.mk v1.2 x0.from0)))] [1, 2, 3, 4, 71] [1] [!(!(specIsType (KinType.mk v1.2 x0.to))), !(specIsType (KinType.mk v1.2 x0.to))] [] [] [0, 1, 4, 1, 8, 1, 1, 6] (cn ((!(specIsType (KinType.mk v1.2 x0.to))) || (!decide ((l3Last (KinType.mk v1.2 x0.to)) = (l3Last (KinType.mk v1.2 x0.from0))))) (r0 1 [1, 2, 3, 4] [1] (rt [] (C199 false))) (r1 1 [1, 2, 3, 4] [1] [pf (inR .i64 (v1.2 + 1))] [0] (.next 0 [] (D199b1 x0 (true, v1.2 + 1))))))))) (r0 1 [2] [] (rt [] (C199 v1.1))))
def A199 (x0 : Rule) : Ann := r0 1 [1, 2] [1] (.reg 1 [] [(2, k175 x0.name), (7, cg (!(!(specIsName x0.name))) (k83 x0.sex 0 2)), (13, cg (!((!(specIsName x0.name)) || (!(l1In x0.sex 0 2)))) (k83 x0.place 0 2))] [1, 2, 22] [1] [!(!(specIsName x0.name)), !(specIsName x0.name), !((!(specIsName x0.name)) || (!(l1In x0.sex 0 2))), (!(specIsName x0.name)) || (!(l1In x0.sex 0 2))] [] [] [0, 1, 1, 4, 1, 6, 9, 9, 8, 9, 14] (cn (((!(specIsName x0.name)) || (!(l1In x0.sex 0 2))) || (!(l1In x0.place 0 2))) (r0 1 [1, 2] [1] (rt [] (C199 false))) (.reg 1 [] [(3, k83 ((x0.from0.length : Nat) : Int) 1 4), (10, cg (!(!(l1In ((x0.from0.length : Nat) : Int) 1 4))) (k217 x0.to x0.from0))] [1, 2, 35] [1] [!(!(l1In ((x0.from0.length : Nat) : Int) 1 4)), !(l1In ((x0.from0.length : Nat) : Int) 1 4)] [] [] [0, 1, 1, 1, 1, 4, 1, 6] (cn ((!(l1In ((x0.from0.length : Nat) : Int) 1 4)) || (!(l4Before x0.to x0.from0))) (r0 1 [1, 2] [1] (rt [] (C199 false))) (r0 1 [1, 2, 3] [1] (r0 1 [1, 2, 3, 4] [1] (.loop (Bool × Int) (D199b1 x0) [] [] [] (D199b1 x0 (false, 1)) (A199b1 x0))))))))
theorem ok_spec_IsRule (x0 : Rule) (hr : x0.name.length ≤ 1048576 ∧ x0.from0.length ≤ 1048576 ∧ x0.to.length ≤ 1048576) : FnT Try.prog 199 [.agg (cRule false x0)] (C199 (specIsRule x0)) := by
  have aux : ∀ R, specIsRule x0 = R → slim (C199 R) (A199 x0) [] := by
    intro R hR
    refine rg trivial ?_
    refine rg ⟨by (intros; omega), fun hg0 => trivial, fun hg0 => trivial, trivial⟩ ?_
    revert hR; refine cd (fun hc1 hR => ?_) fun hc1 hR => ?_
    ·
      refine rg trivial ?_
      exact congrArg C199 hR
    ·
      refine rg ⟨trivial, fun hg0 => ⟨by (intros; omega), by (intros; omega)⟩, trivial⟩ ?_
      revert hR; refine cd (fun hc2 hR => ?_) fun hc2 hR => ?_
      ·
        refine rg trivial ?_
        exact congrArg C199 hR
      ·
        refine rg trivial ?_
        refine rg trivial ?_
        revert hR; refine lW (fun v => 1 ≤ v.2 ∧ v.2 ≤ 3) (fun v => (3 - (v.2 : Int)).toNat) (by trivial) (Nat.lt_succ_self _) rfl fun m1 v1 F1 hI1 hM1 hR hK1 => ?_
        refine rg trivial ?_
        revert hR; refine cd (fun hc3 hR => ?_) fun hc3 hR => ?_
        ·
          refine rg trivial ?_
          refine rg ⟨fun hg0 => by ( intros; simp only [inR]; omega), trivial⟩ ?_
          revert hR; refine cd (fun hc4 hR => ?_) fun hc4 hR => ?_
          ·
            refine rg ⟨by ( intros; simp only [inR]; omega), trivial⟩ ?_
            exact hK1 (v1.1, v1.2 + 1) (by ((try clear hR hK1); intros; (try simp only [decide_eq_true_eq, decide_eq_false_iff_not, Bool.or_eq_true, Bool.and_eq_true, or_f_iff, not_f_iff, not_t_iff, Bool.not_eq_true', inR] at *); (repeat' apply And.intro) <;> (intros; omega))) (by ((try clear hR hK1); intros; (try simp only [decide_eq_true_eq, decide_eq_false_iff_not, Bool.or_eq_true, Bool.and_eq_true, or_f_iff, not_f_iff, not_t_iff, Bool.not_eq_true', inR] at *); (repeat' apply And.intro) <;> (intros; omega))) hR
          ·
            refine rg ⟨by ( intros; simp only [inR]; omega), fun hg0 => by ( intros; simp only [inR]; omega), fun hg0 => by ( intros; simp only [inR]; omega), trivial⟩ ?_
            revert hR; refine cd (fun hc5 hR => ?_) fun hc5 hR => ?_
            ·
              refine rg trivial ?_
              exact congrArg C199 hR
            ·
              refine rg ⟨by ( intros; simp only [inR]; omega), trivial⟩ ?_
              exact hK1 (true, v1.2 + 1) (by ((try clear hR hK1); intros; (try simp only [decide_eq_true_eq, decide_eq_false_iff_not, Bool.or_eq_true, Bool.and_eq_true, or_f_iff, not_f_iff, not_t_iff, Bool.not_eq_true', inR] at *); (repeat' apply And.intro) <;> (intros; omega))) (by ((try clear hR hK1); intros; (try simp only [decide_eq_true_eq, decide_eq_false_iff_not, Bool.or_eq_true, Bool.and_eq_true, or_f_iff, not_f_iff, not_t_iff, Bool.not_eq_true', inR] at *); (repeat' apply And.intro) <;> (intros; omega))) hR
        ·
          refine rg trivial ?_
          exact congrArg C199 hR
  exact Fn.go 73 Try.func199 (by kernel_rfl) (by kernel_rfl) (by simp [C199, Frs, FrsL]) (A199 x0) (by kernel_rfl) (aux _ rfl)
def k199 (x0 : Rule) : Cl := (hres (C199 (specIsRule x0)), k1 (ok_spec_IsRule x0))
end Go.Proofs.Ytaageiiodlfeiaa
