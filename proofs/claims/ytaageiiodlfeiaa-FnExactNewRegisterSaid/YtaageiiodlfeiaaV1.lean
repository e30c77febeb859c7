import Derived.Test.YtaageiiodlfeiaaProg
import Derived.Test.YtaageiiodlfeiaaLiteW
import Derived.KernelRfl
set_option maxHeartbeats 4000000
set_option linter.unusedSimpArgs false
set_option linter.unusedVariables false
namespace Go.Proofs.Ytaageiiodlfeiaa
open Go Go.Lite Go.Proofs
structure Person where
  name : List UInt8
  sex : Int
  father : Int
  mother : Int
  born : Int
  died : Int
  deriving Inhabited
def cPerson (fr : Bool) (x : Person) : List LV := cStr x.name ++ cInt .i64 x.sex ++ cInt .i64 x.father ++ cInt .i64 x.mother ++ cInt .i64 x.born ++ cInt .i64 x.died

structure Union where
  man : Int
  woman : Int
  from0 : Int
  to : Int
  deriving Inhabited
def cUnion (fr : Bool) (x : Union) : List LV := cInt .i64 x.man ++ cInt .i64 x.woman ++ cInt .i64 x.from0 ++ cInt .i64 x.to

structure Family where
  people : List Person
  unions : List Union
  deriving Inhabited
def cFamily (fr : Bool) (x : Family) : List LV := cSl fr 6 (cPerson fr) x.people ++ cSl fr 4 (cUnion fr) x.unions

def C119 (R : Bool) : LV × List (Nat × BC) := (.bool R, [])
def eqPerson (x0 : Person) (x1 : Person) : Bool := bif (!(x0.name == x1.name)) then false else (bif (!decide (x0.sex = x1.sex)) then false else (bif (!decide (x0.father = x1.father)) then false else (bif (!decide (x0.mother = x1.mother)) then false else (bif (!decide (x0.born = x1.born)) then false else (bif (!decide (x0.died = x1.died)) then false else true)))))
def A119 (x0 : Person) (x1 : Person) : Ann := r0 1 [2, 3, 4] [2, 3] (r0 1 [2, 3, 4, 9] [2, 3] (cn (!(x0.name == x1.name)) (r0 1 [2, 3, 4] [2, 3] (rt [] (C119 false))) (r0 1 [2, 3, 4, 14] [2, 3] (cn (!decide (x0.sex = x1.sex)) (r0 1 [2, 3, 4] [2, 3] (rt [] (C119 false))) (r0 1 [2, 3, 4, 19] [2, 3] (cn (!decide (x0.father = x1.father)) (r0 1 [2, 3, 4] [2, 3] (rt [] (C119 false))) (r0 1 [2, 3, 4, 24] [2, 3] (cn (!decide (x0.mother = x1.mother)) (r0 1 [2, 3, 4] [2, 3] (rt [] (C119 false))) (r0 1 [2, 3, 4, 29] [2, 3] (cn (!decide (x0.born = x1.born)) (r0 1 [2, 3, 4] [2, 3] (rt [] (C119 false))) (r0 1 [4, 34] [] (cn (!decide (x0.died = x1.died)) (r0 1 [4] [] (rt [] (C119 false))) (r0 1 [4] [] (rt [] (C119 true)))))))))))))))
theorem ok_laws_eqPerson (x0 : Person) (x1 : Person) : FnT Try.prog 119 [.agg (cPerson false x0), .agg (cPerson false x1)] (C119 (eqPerson x0 x1)) := by
  have aux : ∀ R, eqPerson x0 x1 = R → slim (C119 R) (A119 x0 x1) [] := by
    intro R hR
    refine rg trivial ?_
    refine rg trivial ?_
    revert hR; refine cd (fun hc1 hR => ?_) fun hc1 hR => ?_
    ·
      refine rg trivial ?_
      exact congrArg C119 hR
    ·
      refine rg trivial ?_
      revert hR; refine cd (fun hc2 hR => ?_) fun hc2 hR => ?_
      ·
        refine rg trivial ?_
        exact congrArg C119 hR
      ·
        refine rg trivial ?_
        revert hR; refine cd (fun hc3 hR => ?_) fun hc3 hR => ?_
        ·
          refine rg trivial ?_
          exact congrArg C119 hR
        ·
          refine rg trivial ?_
          revert hR; refine cd (fun hc4 hR => ?_) fun hc4 hR => ?_
          ·
            refine rg trivial ?_
            exact congrArg C119 hR
          ·
            refine rg trivial ?_
            revert hR; refine cd (fun hc5 hR => ?_) fun hc5 hR => ?_
            ·
              refine rg trivial ?_
              exact congrArg C119 hR
            ·
              refine rg trivial ?_
              revert hR; refine cd (fun hc6 hR => ?_) fun hc6 hR => ?_
              ·
                refine rg trivial ?_
                exact congrArg C119 hR
              ·
                refine rg trivial ?_
                exact congrArg C119 hR
  exact Fn.go 35 Try.func119 (by kernel_rfl) (by kernel_rfl) (by simp [C119, Frs, FrsL]) (A119 x0 x1) (by kernel_rfl) (aux _ rfl)
def k119 (x0 : Person) (x1 : Person) : Cl := (hres (C119 (eqPerson x0 x1)), k0 (ok_laws_eqPerson x0 x1))
def C66 (R : Bool) : LV × List (Nat × BC) := (.bool R, [])
def eqPersonS (x0 : List Person) (x1 : List Person) : Bool := bif (!decide (((x0.length : Nat) : Int) = ((x1.length : Nat) : Int))) then false else (loopN (fun i1 (v1 : Unit) next => bif (!(eqPerson (x0.getD i1 default) (x1.getD i1 default))) then false else (next ())) (fun (v1 : Unit) => true) x0.length 0 ())
def D66b1 (x0 : List Person) (x1 : List Person) (i1 : Nat) (v1 : Unit) : Dl := ⟨[(5, .int .i64 ((i1 : Nat) : Int))], []⟩
def A66b1 (x0 : List Person) (x1 : List Person) (i1 : Nat) (v1 : Unit) : Ann := r0 1 [0, 1, 4, 5, 14] [] (cn (decide (((i1 : Nat) : Int) < ((x0.length : Nat) : Int))) (.reg 1 [] [(8, k119 (x0.getD i1 default) (x1.getD i1 default))] [0, 1, 4, 5, 26] [] [] [pf (0 ≤ (((i1 : Nat) : Int) : Int) ∧ (((i1 : Nat) : Int) : Int) < ((x0.length : Nat) : Int)), pf (0 ≤ (((i1 : Nat) : Int) : Int) ∧ (((i1 : Nat) : Int) : Int) < ((x1.length : Nat) : Int))] [] [0, 4, 8] (cn (!(eqPerson (x0.getD i1 default) (x1.getD i1 default))) (r0 1 [0, 1, 4, 5] [] (rt [] (C66 false))) (r1 1 [0, 1, 4, 5] [] [pf (inR .i64 (((i1 : Nat) : Int) + 1))] [0] (.next 0 [] (D66b1 x0 x1 (i1 + 1) ()))))) (r0 1 [4] [] (rt [] (C66 true))))
def A66 (x0 : List Person) (x1 : List Person) : Ann := r0 1 [0, 1, 4] [] (r0 1 [0, 1, 4, 10] [] (cn (!decide (((x0.length : Nat) : Int) = ((x1.length : Nat) : Int))) (r0 1 [0, 1, 4] [] (rt [] (C66 false))) (r0 1 [0, 1, 4, 5] [] (lp (D66b1 x0 x1) [] [] [] (D66b1 x0 x1 0 ()) (A66b1 x0 x1)))))
theorem ok_laws_eqPersonS (x0 : List Person) (x1 : List Person) (hx : x0.length ≤ 1048576) : FnT Try.prog 66 [.ro false 6 x0.length (rowOf (cPerson false) x0), .ro false 6 x1.length (rowOf (cPerson false) x1)] (C66 (eqPersonS x0 x1)) := by
  have aux : ∀ R, eqPersonS x0 x1 = R → slim (C66 R) (A66 x0 x1) [] := by
    intro R hR
    refine rg trivial ?_
    refine rg trivial ?_
    revert hR; refine cd (fun hc1 hR => ?_) fun hc1 hR => ?_
    ·
      refine rg trivial ?_
      exact congrArg C66 hR
    ·
      refine rg trivial ?_
      revert hR; refine lN (fun i v => True) (by trivial) rfl fun i1 v1 F1 hn1 hI1 hR hK1 => ?_
      refine rg trivial ?_
      refine ⟨fun hc2 => ?_, fun hc2 => ?_⟩
      · have hii1 : i1 < x0.length := by have := of_decide_eq_true hc2; omega
        replace hR := loopN_step hR hii1
        refine rg ⟨by (intros; omega), by ((try clear hR hK1); intros; (try simp only [decide_eq_true_eq, decide_eq_false_iff_not, Bool.or_eq_true, Bool.and_eq_true, or_f_iff, not_f_iff, not_t_iff, Bool.not_eq_true', inR] at *); (repeat' apply And.intro) <;> (intros; omega)), trivial, trivial⟩ ?_
        revert hR; refine cd (fun hc3 hR => ?_) fun hc3 hR => ?_
        ·
          refine rg trivial ?_
          exact congrArg C66 hR
        ·
          refine rg ⟨by ( intros; simp only [inR]; omega), trivial⟩ ?_
          exact hK1 () hii1 (by trivial) hR
      · obtain rfl : i1 = x0.length := by have := of_decide_eq_false hc2; omega
        replace hR := loopN_end hR (Nat.lt_irrefl _)
        refine rg trivial ?_
        exact congrArg C66 hR
  exact Fn.go 27 Try.func66 (by kernel_rfl) (by kernel_rfl) (by simp [C66, Frs, FrsL]) (A66 x0 x1) (by kernel_rfl) (aux _ rfl)
def k66 (x0 : List Person) (x1 : List Person) : Cl := (hres (C66 (eqPersonS x0 x1)), k1 (ok_laws_eqPersonS x0 x1))
def C120 (R : Bool) : LV × List (Nat × BC) := (.bool R, [])
def eqUnion (x0 : Union) (x1 : Union) : Bool := bif (!decide (x0.man = x1.man)) then false else (bif (!decide (x0.woman = x1.woman)) then false else (bif (!decide (x0.from0 = x1.from0)) then false else (bif (!decide (x0.to = x1.to)) then false else true)))
def A120 (x0 : Union) (x1 : Union) : Ann := r0 1 [2, 3, 4] [2, 3] (r0 1 [2, 3, 4, 9] [2, 3] (cn (!decide (x0.man = x1.man)) (r0 1 [2, 3, 4] [2, 3] (rt [] (C120 false))) (r0 1 [2, 3, 4, 14] [2, 3] (cn (!decide (x0.woman = x1.woman)) (r0 1 [2, 3, 4] [2, 3] (rt [] (C120 false))) (r0 1 [2, 3, 4, 19] [2, 3] (cn (!decide (x0.from0 = x1.from0)) (r0 1 [2, 3, 4] [2, 3] (rt [] (C120 false))) (r0 1 [4, 24] [] (cn (!decide (x0.to = x1.to)) (r0 1 [4] [] (rt [] (C120 false))) (r0 1 [4] [] (rt [] (C120 true)))))))))))
theorem ok_laws_eqUnion (x0 : Union) (x1 : Union) : FnT Try.prog 120 [.agg (cUnion false x0), .agg (cUnion false x1)] (C120 (eqUnion x0 x1)) := by
  have aux : ∀ R, eqUnion x0 x1 = R → slim (C120 R) (A120 x0 x1) [] := by
    intro R hR
    refine rg trivial ?_
    refine rg trivial ?_
    revert hR; refine cd (fun hc1 hR => ?_) fun hc1 hR => ?_
    ·
      refine rg trivial ?_
      exact congrArg C120 hR
    ·
      refine rg trivial ?_
      revert hR; refine cd (fun hc2 hR => ?_) fun hc2 hR => ?_
      ·
        refine rg trivial ?_
        exact congrArg C120 hR
      ·
        refine rg trivial ?_
        revert hR; refine cd (fun hc3 hR => ?_) fun hc3 hR => ?_
        ·
          refine rg trivial ?_
          exact congrArg C120 hR
        ·
          refine rg trivial ?_
          revert hR; refine cd (fun hc4 hR => ?_) fun hc4 hR => ?_
          ·
            refine rg trivial ?_
            exact congrArg C120 hR
          ·
            refine rg trivial ?_
            exact congrArg C120 hR
  exact Fn.go 25 Try.func120 (by kernel_rfl) (by kernel_rfl) (by simp [C120, Frs, FrsL]) (A120 x0 x1) (by kernel_rfl) (aux _ rfl)
def k120 (x0 : Union) (x1 : Union) : Cl := (hres (C120 (eqUnion x0 x1)), k0 (ok_laws_eqUnion x0 x1))
def C67 (R : Bool) : LV × List (Nat × BC) := (.bool R, [])
def eqUnionS (x0 : List Union) (x1 : List Union) : Bool := bif (!decide (((x0.length : Nat) : Int) = ((x1.length : Nat) : Int))) then false else (loopN (fun i1 (v1 : Unit) next => bif (!(eqUnion (x0.getD i1 default) (x1.getD i1 default))) then false else (next ())) (fun (v1 : Unit) => true) x0.length 0 ())
def D67b1 (x0 : List Union) (x1 : List Union) (i1 : Nat) (v1 : Unit) : Dl := ⟨[(5, .int .i64 ((i1 : Nat) : Int))], []⟩
def A67b1 (x0 : List Union) (x1 : List Union) (i1 : Nat) (v1 : Unit) : Ann := r0 1 [0, 1, 4, 5, 14] [] (cn (decide (((i1 : Nat) : Int) < ((x0.length : Nat) : Int))) (.reg 1 [] [(8, k120 (x0.getD i1 default) (x1.getD i1 default))] [0, 1, 4, 5, 26] [] [] [pf (0 ≤ (((i1 : Nat) : Int) : Int) ∧ (((i1 : Nat) : Int) : Int) < ((x0.length : Nat) : Int)), pf (0 ≤ (((i1 : Nat) : Int) : Int) ∧ (((i1 : Nat) : Int) : Int) < ((x1.length : Nat) : Int))] [] [0, 4, 8] (cn (!(eqUnion (x0.getD i1 default) (x1.getD i1 default))) (r0 1 [0, 1, 4, 5] [] (rt [] (C67 false))) (r1 1 [0, 1, 4, 5] [] [pf (inR .i64 (((i1 : Nat) : Int) + 1))] [0] (.next 0 [] (D67b1 x0 x1 (i1 + 1) ()))))) (r0 1 [4] [] (rt [] (C67 true))))
def A67 (x0 : List Union) (x1 : List Union) : Ann := r0 1 [0, 1, 4] [] (r0 1 [0, 1, 4, 10] [] (cn (!decide (((x0.length : Nat) : Int) = ((x1.length : Nat) : Int))) (r0 1 [0, 1, 4] [] (rt [] (C67 false))) (r0 1 [0, 1, 4, 5] [] (lp (D67b1 x0 x1) [] [] [] (D67b1 x0 x1 0 ()) (A67b1 x0 x1)))))
theorem ok_laws_eqUnionS (x0 : List Union) (x1 : List Union) (hx : x0.length ≤ 1048576) : FnT Try.prog 67 [.ro false 4 x0.length (rowOf (cUnion false) x0), .ro false 4 x1.length (rowOf (cUnion false) x1)] (C67 (eqUnionS x0 x1)) := by
  have aux : ∀ R, eqUnionS x0 x1 = R → slim (C67 R) (A67 x0 x1) [] := by
    intro R hR
    refine rg trivial ?_
    refine rg trivial ?_
    revert hR; refine cd (fun hc1 hR => ?_) fun hc1 hR => ?_
    ·
      refine rg trivial ?_
      exact congrArg C67 hR
    ·
      refine rg trivial ?_
      revert hR; refine lN (fun i v => True) (by trivial) rfl fun i1 v1 F1 hn1 hI1 hR hK1 => ?_
      refine rg trivial ?_
      refine ⟨fun hc2 => ?_, fun hc2 => ?_⟩
      · have hii1 : i1 < x0.length := by have := of_decide_eq_true hc2; omega
        replace hR := loopN_step hR hii1
        refine rg ⟨by (intros; omega), by ((try clear hR hK1); intros; (try simp only [decide_eq_true_eq, decide_eq_false_iff_not, Bool.or_eq_true, Bool.and_eq_true, or_f_iff, not_f_iff, not_t_iff, Bool.not_eq_true', inR] at *); (repeat' apply And.intro) <;> (intros; omega)), trivial, trivial⟩ ?_
        revert hR; refine cd (fun hc3 hR => ?_) fun hc3 hR => ?_
        ·
          refine rg trivial ?_
          exact congrArg C67 hR
        ·
          refine rg ⟨by ( intros; simp only [inR]; omega), trivial⟩ ?_
          exact hK1 () hii1 (by trivial) hR
      · obtain rfl : i1 = x0.length := by have := of_decide_eq_false hc2; omega
        replace hR := loopN_end hR (Nat.lt_irrefl _)
        refine rg trivial ?_
        exact congrArg C67 hR
  exact Fn.go 27 Try.func67 (by kernel_rfl) (by kernel_rfl) (by simp [C67, Frs, FrsL]) (A67 x0 x1) (by kernel_rfl) (aux _ rfl)
def k67 (x0 : List Union) (x1 : List Union) : Cl := (hres (C67 (eqUnionS x0 x1)), k1 (ok_laws_eqUnionS x0 x1))
def C27 (R : Bool) : LV × List (Nat × BC) := (.bool R, [])
def eqFamily (x0 : Family) (x1 : Family) : Bool := bif (!(eqPersonS x0.people x1.people)) then false else (bif (!(eqUnionS x0.unions x1.unions)) then false else true)
def A27 (x0 : Family) (x1 : Family) : Ann := r0 1 [2, 3, 4] [2, 3] (.reg 1 [] [(4, k66 x0.people x1.people)] [2, 3, 4, 10] [2, 3] [] [] [] [0] (cn (!(eqPersonS x0.people x1.people)) (r0 1 [2, 3, 4] [2, 3] (rt [] (C27 false))) (.reg 1 [] [(4, k67 x0.unions x1.unions)] [4, 16] [] [] [] [] [0] (cn (!(eqUnionS x0.unions x1.unions)) (r0 1 [4] [] (rt [] (C27 false))) (r0 1 [4] [] (rt [] (C27 true)))))))
theorem ok_laws_eqFamily (x0 : Family) (x1 : Family) (hx : x0.people.length ≤ 1048576 ∧ x0.unions.length ≤ 1048576) : FnT Try.prog 27 [.agg (cFamily false x0), .agg (cFamily false x1)] (C27 (eqFamily x0 x1)) := by
  have aux : ∀ R, eqFamily x0 x1 = R → slim (C27 R) (A27 x0 x1) [] := by
    intro R hR
    refine rg trivial ?_
    refine rg ⟨by (intros; omega), trivial⟩ ?_
    revert hR; refine cd (fun hc1 hR => ?_) fun hc1 hR => ?_
    ·
      refine rg trivial ?_
      exact congrArg C27 hR
    ·
      refine rg ⟨by (intros; omega), trivial⟩ ?_
      revert hR; refine cd (fun hc2 hR => ?_) fun hc2 hR => ?_
      ·
        refine rg trivial ?_
        exact congrArg C27 hR
      ·
        refine rg trivial ?_
        exact congrArg C27 hR
  exact Fn.go 17 Try.func27 (by kernel_rfl) (by kernel_rfl) (by simp [C27, Frs, FrsL]) (A27 x0 x1) (by kernel_rfl) (aux _ rfl)
def k27 (x0 : Family) (x1 : Family) : Cl := (hres (C27 (eqFamily x0 x1)), k1 (ok_laws_eqFamily x0 x1))
end Go.Proofs.Ytaageiiodlfeiaa
