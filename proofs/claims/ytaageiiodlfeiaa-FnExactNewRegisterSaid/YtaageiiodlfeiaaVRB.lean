import Derived.Test.YtaageiiodlfeiaaVR8
set_option maxHeartbeats 4000000
set_option linter.unusedSimpArgs false
set_option linter.unusedVariables false
namespace Go.Proofs.Ytaageiiodlfeiaa
open Go Go.Lite Go.Proofs
structure Entry where
  type : KinType
  term : List UInt8
  deriving Inhabited
def cEntry (fr : Bool) (x : Entry) : List LV := cKinType fr x.type ++ cStr x.term

structure Terminology where
  rules : List Rule
  entries : List Entry
  deriving Inhabited
def cTerminology (fr : Bool) (x : Terminology) : List LV := cSl fr 5 (cRule fr) x.rules ++ cSl fr 3 (cEntry fr) x.entries

structure Law where
  degree : Int
  canon : Int
  affinity : Int
  age : Int
  wives : Int
  husbands : Int
  patriline : Bool
  matriline : Bool
  deriving Inhabited
def cLaw (fr : Bool) (x : Law) : List LV := cInt .i64 x.degree ++ cInt .i64 x.canon ++ cInt .i64 x.affinity ++ cInt .i64 x.age ++ cInt .i64 x.wives ++ cInt .i64 x.husbands ++ cBool x.patriline ++ cBool x.matriline

structure Custom where
  prefer : Int
  youngest : Bool
  represent : Bool
  deriving Inhabited
def cCustom (fr : Bool) (x : Custom) : List LV := cInt .i64 x.prefer ++ cBool x.youngest ++ cBool x.represent

structure Register where
  family : Family
  law : Law
  terms : Terminology
  custom : Custom
  deriving Inhabited
def cRegister (fr : Bool) (x : Register) : List LV := cFamily fr x.family ++ cLaw fr x.law ++ cTerminology fr x.terms ++ cCustom fr x.custom

def C210 (R : Bool) : LV × List (Nat × BC) := (.bool R, [])
def eqStep (x0 : Step) (x1 : Step) : Bool := bif (!decide (x0.kind = x1.kind)) then false else (bif (!decide (x0.age = x1.age)) then false else true)
def A210 (x0 : Step) (x1 : Step) : Ann := r0 1 [2, 3, 4] [2, 3] (r0 1 [2, 3, 4, 9] [2, 3] (cn (!decide (x0.kind = x1.kind)) (r0 1 [2, 3, 4] [2, 3] (rt [] (C210 false))) (r0 1 [4, 14] [] (cn (!decide (x0.age = x1.age)) (r0 1 [4] [] (rt [] (C210 false))) (r0 1 [4] [] (rt [] (C210 true)))))))
theorem ok_laws_eqStep (x0 : Step) (x1 : Step) : FnT Try.prog 210 [.agg (cStep false x0), .agg (cStep false x1)] (C210 (eqStep x0 x1)) := by
  have aux : ∀ R, eqStep x0 x1 = R → slim (C210 R) (A210 x0 x1) [] := by
    intro R hR
    refine rg trivial ?_
    refine rg trivial ?_
    revert hR; refine cd (fun hc1 hR => ?_) fun hc1 hR => ?_
    ·
      refine rg trivial ?_
      exact congrArg C210 hR
    ·
      refine rg trivial ?_
      revert hR; refine cd (fun hc2 hR => ?_) fun hc2 hR => ?_
      ·
        refine rg trivial ?_
        exact congrArg C210 hR
      ·
        refine rg trivial ?_
        exact congrArg C210 hR
  exact Fn.go 15 Try.func210 (by kernel_rfl) (by kernel_rfl) (by simp [C210, Frs, FrsL]) (A210 x0 x1) (by kernel_rfl) (aux _ rfl)
def k210 (x0 : Step) (x1 : Step) : Cl := (hres (C210 (eqStep x0 x1)), k0 (ok_laws_eqStep x0 x1))
def C170 (R : Bool) : LV × List (Nat × BC) := (.bool R, [])
def eqStepS (x0 : List Step) (x1 : List Step) : Bool := bif (!decide (((x0.length : Nat) : Int) = ((x1.length : Nat) : Int))) then false else (loopN (fun i1 (v1 : Unit) next => bif (!(eqStep (x0.getD i1 default) (x1.getD i1 default))) then false else (next ())) (fun (v1 : Unit) => true) x0.length 0 ())
def D170b1 (x0 : List Step) (x1 : List Step) (i1 : Nat) (v1 : Unit) : Dl := ⟨[(5, .int .i64 ((i1 : Nat) : Int))], []⟩
def A170b1 (x0 : List Step) (x1 : List Step) (i1 : Nat) (v1 : Unit) : Ann := r0 1 [0, 1, 4, 5, 14] [] (cn (decide (((i1 : Nat) : Int) < ((x0.length : Nat) : Int))) (.reg 1 [] [(8, k210 (x0.getD i1 default) (x1.getD i1 default))] [0, 1, 4, 5, 26] [] [] [pf (0 ≤ (((i1 : Nat) : Int) : Int) ∧ (((i1 : Nat) : Int) : Int) < ((x0.length : Nat) : Int)), pf (0 ≤ (((i1 : Nat) : Int) : Int) ∧ (((i1 : Nat) : Int) : Int) < ((x1.length : Nat) : Int))] [] [0, 4, 8] (cn (!(eqStep (x0.getD i1 default) (x1.getD i1 default))) (r0 1 [0, 1, 4, 5] [] (rt [] (C170 false))) (r1 1 [0, 1, 4, 5] [] [pf (inR .i64 (((i1 : Nat) : Int) + 1))] [0] (.next 0 [] (D170b1 x0 x1 (i1 + 1) ()))))) (r0 1 [4] [] (rt [] (C170 true))))
def A170 (x0 : List Step) (x1 : List Step) : Ann := r0 1 [0, 1, 4] [] (r0 1 [0, 1, 4, 10] [] (cn (!decide (((x0.length : Nat) : Int) = ((x1.length : Nat) : Int))) (r0 1 [0, 1, 4] [] (rt [] (C170 false))) (r0 1 [0, 1, 4, 5] [] (lp (D170b1 x0 x1) [] [] [] (D170b1 x0 x1 0 ()) (A170b1 x0 x1)))))
theorem ok_laws_eqStepS (x0 : List Step) (x1 : List Step) (hx : x0.length ≤ 1048576) : FnT Try.prog 170 [.ro false 2 x0.length (rowOf (cStep false) x0), .ro false 2 x1.length (rowOf (cStep false) x1)] (C170 (eqStepS x0 x1)) := by
  have aux : ∀ R, eqStepS x0 x1 = R → slim (C170 R) (A170 x0 x1) [] := by
    intro R hR
    refine rg trivial ?_
    refine rg trivial ?_
    revert hR; refine cd (fun hc1 hR => ?_) fun hc1 hR => ?_
    ·
      refine rg trivial ?_
      exact congrArg C170 hR
    ·
      refine rg trivial ?_
      revert hR; refine lN (fun i v => True) (by trivial) rfl fun i1 v1 F1 hn1 hI1 hR hK1 => ?_
      refine rg trivial ?_
      refine ⟨fun hc2 => ?_, fun hc2 => ?_⟩
      · have hii1 : i1 < x0.length := by have := of_decide_eq_true hc2; omega
        replace hR := loopN_step hR hii1
        refine rg ⟨by (intros; omega), by ((try clear hR hK1); intros; (try simp only [decide_eq_true_eq, decide_eq_false_iff_not, Bool.or_eq_true, Bool.and_eq_true, or_f_iff, not_f_iff, not_t_iff, Bool.not_eq_true', inR] at *); (repeat' apply And.intro) <;> (intros; omega)), trivial, trivial⟩ ?_
        revert hR; refine cd (fun hc3 hR => ?_) fun hc3 hR => ?_
        ·
          refine rg trivial ?_
          exact congrArg C170 hR
        ·
          refine rg ⟨by ( intros; simp only [inR]; omega), trivial⟩ ?_
          exact hK1 () hii1 (by trivial) hR
      · obtain rfl : i1 = x0.length := by have := of_decide_eq_false hc2; omega
        replace hR := loopN_end hR (Nat.lt_irrefl _)
        refine rg trivial ?_
        exact congrArg C170 hR
  exact Fn.go 27 Try.func170 (by kernel_rfl) (by kernel_rfl) (by simp [C170, Frs, FrsL]) (A170 x0 x1) (by kernel_rfl) (aux _ rfl)
def k170 (x0 : List Step) (x1 : List Step) : Cl := (hres (C170 (eqStepS x0 x1)), k1 (ok_laws_eqStepS x0 x1))
def C171 (R : Bool) : LV × List (Nat × BC) := (.bool R, [])
def eqKinType (x0 : KinType) (x1 : KinType) : Bool := bif (!decide (x0.ego = x1.ego)) then false else (bif (!(eqStepS x0.steps x1.steps)) then false else true)
def A171 (x0 : KinType) (x1 : KinType) : Ann := r0 1 [2, 3, 4] [2, 3] (r0 1 [2, 3, 4, 9] [2, 3] (cn (!decide (x0.ego = x1.ego)) (r0 1 [2, 3, 4] [2, 3] (rt [] (C171 false))) (.reg 1 [] [(4, k170 x0.steps x1.steps)] [4, 15] [] [] [] [] [0] (cn (!(eqStepS x0.steps x1.steps)) (r0 1 [4] [] (rt [] (C171 false))) (r0 1 [4] [] (rt [] (C171 true)))))))
theorem ok_laws_eqKinType (x0 : KinType) (x1 : KinType) (hx : x0.steps.length ≤ 1048576) : FnT Try.prog 171 [.agg (cKinType false x0), .agg (cKinType false x1)] (C171 (eqKinType x0 x1)) := by
  have aux : ∀ R, eqKinType x0 x1 = R → slim (C171 R) (A171 x0 x1) [] := by
    intro R hR
    refine rg trivial ?_
    refine rg trivial ?_
    revert hR; refine cd (fun hc1 hR => ?_) fun hc1 hR => ?_
    ·
      refine rg trivial ?_
      exact congrArg C171 hR
    ·
      refine rg ⟨by trivial, trivial⟩ ?_
      revert hR; refine cd (fun hc2 hR => ?_) fun hc2 hR => ?_
      ·
        refine rg trivial ?_
        exact congrArg C171 hR
      ·
        refine rg trivial ?_
        exact congrArg C171 hR
  exact Fn.go 16 Try.func171 (by kernel_rfl) (by kernel_rfl) (by simp [C171, Frs, FrsL]) (A171 x0 x1) (by kernel_rfl) (aux _ rfl)
def k171 (x0 : KinType) (x1 : KinType) : Cl := (hres (C171 (eqKinType x0 x1)), k1 (ok_laws_eqKinType x0 x1))
def C121 (R : Bool) : LV × List (Nat × BC) := (.bool R, [])
def eqRule (x0 : Rule) (x1 : Rule) : Bool := bif (!(x0.name == x1.name)) then false else (bif (!decide (x0.sex = x1.sex)) then false else (bif (!decide (x0.place = x1.place)) then false else (bif (!(eqStepS x0.from0 x1.from0)) then false else (bif (!(eqStepS x0.to x1.to)) then false else true))))
def A121 (x0 : Rule) (x1 : Rule) : Ann := r0 1 [2, 3, 4] [2, 3] (r0 1 [2, 3, 4, 9] [2, 3] (cn (!(x0.name == x1.name)) (r0 1 [2, 3, 4] [2, 3] (rt [] (C121 false))) (r0 1 [2, 3, 4, 14] [2, 3] (cn (!decide (x0.sex = x1.sex)) (r0 1 [2, 3, 4] [2, 3] (rt [] (C121 false))) (r0 1 [2, 3, 4, 19] [2, 3] (cn (!decide (x0.place = x1.place)) (r0 1 [2, 3, 4] [2, 3] (rt [] (C121 false))) (.reg 1 [] [(4, k170 x0.from0 x1.from0)] [2, 3, 4, 25] [2, 3] [] [] [] [0] (cn (!(eqStepS x0.from0 x1.from0)) (r0 1 [2, 3, 4] [2, 3] (rt [] (C121 false))) (.reg 1 [] [(4, k170 x0.to x1.to)] [4, 31] [] [] [] [] [0] (cn (!(eqStepS x0.to x1.to)) (r0 1 [4] [] (rt [] (C121 false))) (r0 1 [4] [] (rt [] (C121 true)))))))))))))
theorem ok_laws_eqRule (x0 : Rule) (x1 : Rule) (hr : x0.name.length ≤ 1048576 ∧ x0.from0.length ≤ 1048576 ∧ x0.to.length ≤ 1048576) : FnT Try.prog 121 [.agg (cRule false x0), .agg (cRule false x1)] (C121 (eqRule x0 x1)) := by
  have aux : ∀ R, eqRule x0 x1 = R → slim (C121 R) (A121 x0 x1) [] := by
    intro R hR
    refine rg trivial ?_
    refine rg trivial ?_
    revert hR; refine cd (fun hc1 hR => ?_) fun hc1 hR => ?_
    ·
      refine rg trivial ?_
      exact congrArg C121 hR
    ·
      refine rg trivial ?_
      revert hR; refine cd (fun hc2 hR => ?_) fun hc2 hR => ?_
      ·
        refine rg trivial ?_
        exact congrArg C121 hR
      ·
        refine rg trivial ?_
        revert hR; refine cd (fun hc3 hR => ?_) fun hc3 hR => ?_
        ·
          refine rg trivial ?_
          exact congrArg C121 hR
        ·
          refine rg ⟨by (intros; omega), trivial⟩ ?_
          revert hR; refine cd (fun hc4 hR => ?_) fun hc4 hR => ?_
          ·
            refine rg trivial ?_
            exact congrArg C121 hR
          ·
            refine rg ⟨by (intros; omega), trivial⟩ ?_
            revert hR; refine cd (fun hc5 hR => ?_) fun hc5 hR => ?_
            ·
              refine rg trivial ?_
              exact congrArg C121 hR
            ·
              refine rg trivial ?_
              exact congrArg C121 hR
  exact Fn.go 32 Try.func121 (by kernel_rfl) (by kernel_rfl) (by simp [C121, Frs, FrsL]) (A121 x0 x1) (by kernel_rfl) (aux _ rfl)
def k121 (x0 : Rule) (x1 : Rule) : Cl := (hres (C121 (eqRule x0 x1)), k1 (ok_laws_eqRule x0 x1))
def C68 (R : Bool) : LV × List (Nat × BC) := (.bool R, [])
def eqRuleS (x0 : List Rule) (x1 : List Rule) : Bool := bif (!decide (((x0.length : Nat) : Int) = ((x1.length : Nat) : Int))) then false else (loopN (fun i1 (v1 : Unit) next => bif (!(eqRule (x0.getD i1 default) (x1.getD i1 default))) then false else (next ())) (fun (v1 : Unit) => true) x0.length 0 ())
def D68b1 (x0 : List Rule) (x1 : List Rule) (i1 : Nat) (v1 : Unit) : Dl := ⟨[(5, .int .i64 ((i1 : Nat) : Int))], []⟩
def A68b1 (x0 : List Rule) (x1 : List Rule) (i1 : Nat) (v1 : Unit) : Ann := r0 1 [0, 1, 4, 5, 14] [] (cn (decide (((i1 : Nat) : Int) < ((x0.length : Nat) : Int))) (.reg 1 [] [(8, k121 (x0.getD i1 default) (x1.getD i1 default))] [0, 1, 4, 5, 26] [] [] [pf (0 ≤ (((i1 : Nat) : Int) : Int) ∧ (((i1 : Nat) : Int) : Int) < ((x0.length : Nat) : Int)), pf (0 ≤ (((i1 : Nat) : Int) : Int) ∧ (((i1 : Nat) : Int) : Int) < ((x1.length : Nat) : Int))] [] [0, 4, 8] (cn (!(eqRule (x0.getD i1 default) (x1.getD i1 default))) (r0 1 [0, 1, 4, 5] [] (rt [] (C68 false))) (r1 1 [0, 1, 4, 5] [] [pf (inR .i64 (((i1 : Nat) : Int) + 1))] [0] (.next 0 [] (D68b1 x0 x1 (i1 + 1) ()))))) (r0 1 [4] [] (rt [] (C68 true))))
def A68 (x0 : List Rule) (x1 : List Rule) : Ann := r0 1 [0, 1, 4] [] (r0 1 [0, 1, 4, 10] [] (cn (!decide (((x0.length : Nat) : Int) = ((x1.length : Nat) : Int))) (r0 1 [0, 1, 4] [] (rt [] (C68 false))) (r0 1 [0, 1, 4, 5] [] (lp (D68b1 x0 x1) [] [] [] (D68b1 x0 x1 0 ()) (A68b1 x0 x1)))))
theorem ok_laws_eqRuleS (x0 : List Rule) (x1 : List Rule) (hx : x0.length ≤ 1048576) (hr : ∀ r ∈ x0, r.name.length ≤ 1048576 ∧ r.from0.length ≤ 1048576 ∧ r.to.length ≤ 1048576) : FnT Try.prog 68 [.ro false 5 x0.length (rowOf (cRule false) x0), .ro false 5 x1.length (rowOf (cRule false) x1)] (C68 (eqRuleS x0 x1)) := by
  have aux : ∀ R, eqRuleS x0 x1 = R → slim (C68 R) (A68 x0 x1) [] := by
    intro R hR
    refine rg trivial ?_
    refine rg trivial ?_
    revert hR; refine cd (fun hc1 hR => ?_) fun hc1 hR => ?_
    ·
      refine rg trivial ?_
      exact congrArg C68 hR
    ·
      refine rg trivial ?_
      revert hR; refine lN (fun i v => True) (by trivial) rfl fun i1 v1 F1 hn1 hI1 hR hK1 => ?_
      refine rg trivial ?_
      refine ⟨fun hc2 => ?_, fun hc2 => ?_⟩
      · have hii1 : i1 < x0.length := by have := of_decide_eq_true hc2; omega
        replace hR := loopN_step hR hii1
        refine rg ⟨by (intros; omega), by ((try clear hR hK1); intros; (try simp only [decide_eq_true_eq, decide_eq_false_iff_not, Bool.or_eq_true, Bool.and_eq_true, or_f_iff, not_f_iff, not_t_iff, Bool.not_eq_true', inR] at *); (repeat' apply And.intro) <;> (intros; omega)), by (exact hr _ (getD_mem (d := default) hii1)), trivial⟩ ?_
        revert hR; refine cd (fun hc3 hR => ?_) fun hc3 hR => ?_
        ·
          refine rg trivial ?_
          exact congrArg C68 hR
        ·
          refine rg ⟨by ( intros; simp only [inR]; omega), trivial⟩ ?_
          exact hK1 () hii1 (by trivial) hR
      · obtain rfl : i1 = x0.length := by have := of_decide_eq_false hc2; omega
        replace hR := loopN_end hR (Nat.lt_irrefl _)
        refine rg trivial ?_
        exact congrArg C68 hR
  exact Fn.go 27 Try.func68 (by kernel_rfl) (by kernel_rfl) (by simp [C68, Frs, FrsL]) (A68 x0 x1) (by kernel_rfl) (aux _ rfl)
def k68 (x0 : List Rule) (x1 : List Rule) : Cl := (hres (C68 (eqRuleS x0 x1)), k2 (ok_laws_eqRuleS x0 x1))
def C122 (R : Bool) : LV × List (Nat × BC) := (.bool R, [])
def eqEntry (x0 : Entry) (x1 : Entry) : Bool := bif (!(eqKinType x0.type x1.type)) then false else (bif (!(x0.term == x1.term)) then false else true)
def A122 (x0 : Entry) (x1 : Entry) : Ann := r0 1 [2, 3, 4] [2, 3] (.reg 1 [] [(4, k171 x0.type x1.type)] [2, 3, 4, 10] [2, 3] [] [] [] [0] (cn (!(eqKinType x0.type x1.type)) (r0 1 [2, 3, 4] [2, 3] (rt [] (C122 false))) (r0 1 [4, 15] [] (cn (!(x0.term == x1.term)) (r0 1 [4] [] (rt [] (C122 false))) (r0 1 [4] [] (rt [] (C122 true)))))))
theorem ok_laws_eqEntry (x0 : Entry) (x1 : Entry) (he : x0.term.length ≤ 1048576 ∧ x0.type.steps.length ≤ 1048576) : FnT Try.prog 122 [.agg (cEntry false x0), .agg (cEntry false x1)] (C122 (eqEntry x0 x1)) := by
  have aux : ∀ R, eqEntry x0 x1 = R → slim (C122 R) (A122 x0 x1) [] := by
    intro R hR
    refine rg trivial ?_
    refine rg ⟨by (intros; omega), trivial⟩ ?_
    revert hR; refine cd (fun hc1 hR => ?_) fun hc1 hR => ?_
    ·
      refine rg trivial ?_
      exact congrArg C122 hR
    ·
      refine rg trivial ?_
      revert hR; refine cd (fun hc2 hR => ?_) fun hc2 hR => ?_
      ·
        refine rg trivial ?_
        exact congrArg C122 hR
      ·
        refine rg trivial ?_
        exact congrArg C122 hR
  exact Fn.go 16 Try.func122 (by kernel_rfl) (by kernel_rfl) (by simp [C122, Frs, FrsL]) (A122 x0 x1) (by kernel_rfl) (aux _ rfl)
def k122 (x0 : Entry) (x1 : Entry) : Cl := (hres (C122 (eqEntry x0 x1)), k1 (ok_laws_eqEntry x0 x1))
def C69 (R : Bool) : LV × List (Nat × BC) := (.bool R, [])
def eqEntryS (x0 : List Entry) (x1 : List Entry) : Bool := bif (!decide (((x0.length : Nat) : Int) = ((x1.length : Nat) : Int))) then false else (loopN (fun i1 (v1 : Unit) next => bif (!(eqEntry (Entry.mk ((x0.getD i1 default).type) ((x0.getD i1 default).term)) (Entry.mk ((x1.getD i1 default).type) ((x1.getD i1 default).term)))) then false else (next ())) (fun (v1 : Unit) => true) x0.length 0 ())
def D69b1 (x0 : List Entry) (x1 : List Entry) (i1 : Nat) (v1 : Unit) : Dl := ⟨[(5, .int .i64 ((i1 : Nat) : Int))], []⟩
def A69b1 (x0 : List Entry) (x1 : List Entry) (i1 : Nat) (v1 : Unit) : Ann := r0 1 [0, 1, 4, 5, 14] [] (cn (decide (((i1 : Nat) : Int) < ((x0.length : Nat) : Int))) (.reg 1 [] [(8, k122 (Entry.mk ((x0.getD i1 default).type) ((x0.getD i1 default).term)) (Entry.mk ((x1.getD i1 default).type) ((x1.getD i1 default).term)))] [0, 1, 4, 5, 26] [] [] [pf (0 ≤ (((i1 : Nat) : Int) : Int) ∧ (((i1 : Nat) : Int) : Int) < ((x0.length : Nat) : Int)), pf (0 ≤ (((i1 : Nat) : Int) : Int) ∧ (((i1 : Nat) : Int) : Int) < ((x1.length : Nat) : Int))] [] [0, 4, 8] (cn (!(eqEntry (Entry.mk ((x0.getD i1 default).type) ((x0.getD i1 default).term)) (Entry.mk ((x1.getD i1 default).type) ((x1.getD i1 default).term)))) (r0 1 [0, 1, 4, 5] [] (rt [] (C69 false))) (r1 1 [0, 1, 4, 5] [] [pf (inR .i64 (((i1 : Nat) : Int) + 1))] [0] (.next 0 [] (D69b1 x0 x1 (i1 + 1) ()))))) (r0 1 [4] [] (rt [] (C69 true))))
def A69 (x0 : List Entry) (x1 : List Entry) : Ann := r0 1 [0, 1, 4] [] (r0 1 [0, 1, 4, 10] [] (cn (!decide (((x0.length : Nat) : Int) = ((x1.length : Nat) : Int))) (r0 1 [0, 1, 4] [] (rt [] (C69 false))) (r0 1 [0, 1, 4, 5] [] (lp (D69b1 x0 x1) [] [] [] (D69b1 x0 x1 0 ()) (A69b1 x0 x1)))))
theorem ok_laws_eqEntryS (x0 : List Entry) (x1 : List Entry) (hx : x0.length ≤ 1048576) (hee : ∀ e ∈ x0, e.term.length ≤ 1048576 ∧ e.type.steps.length ≤ 1048576) : FnT Try.prog 69 [.ro false 3 x0.length (rowOf (cEntry false) x0), .ro false 3 x1.length (rowOf (cEntry false) x1)] (C69 (eqEntryS x0 x1)) := by
  have aux : ∀ R, eqEntryS x0 x1 = R → slim (C69 R) (A69 x0 x1) [] := by
    intro R hR
    refine rg trivial ?_
    refine rg trivial ?_
    revert hR; refine cd (fun hc1 hR => ?_) fun hc1 hR => ?_
    ·
      refine rg trivial ?_
      exact congrArg C69 hR
    ·
      refine rg trivial ?_
      revert hR; refine lN (fun i v => True) (by trivial) rfl fun i1 v1 F1 hn1 hI1 hR hK1 => ?_
      refine rg trivial ?_
      refine ⟨fun hc2 => ?_, fun hc2 => ?_⟩
      · have hii1 : i1 < x0.length := by have := of_decide_eq_true hc2; omega
        replace hR := loopN_step hR hii1
        refine rg ⟨by (intros; omega), by ((try clear hR hK1); intros; (try simp only [decide_eq_true_eq, decide_eq_false_iff_not, Bool.or_eq_true, Bool.and_eq_true, or_f_iff, not_f_iff, not_t_iff, Bool.not_eq_true', inR] at *); (repeat' apply And.intro) <;> (intros; omega)), by (exact hee _ (getD_mem (d := default) hii1)), trivial⟩ ?_
        revert hR; refine cd (fun hc3 hR => ?_) fun hc3 hR => ?_
        ·
          refine rg trivial ?_
          exact congrArg C69 hR
        ·
          refine rg ⟨by ( intros; simp only [inR]; omega), trivial⟩ ?_
          exact hK1 () hii1 (by trivial) hR
      · obtain rfl : i1 = x0.length := by have := of_decide_eq_false hc2; omega
        replace hR := loopN_end hR (Nat.lt_irrefl _)
        refine rg trivial ?_
        exact congrArg C69 hR
  exact Fn.go 27 Try.func69 (by kernel_rfl) (by kernel_rfl) (by simp [C69, Frs, FrsL]) (A69 x0 x1) (by kernel_rfl) (aux _ rfl)
def k69 (x0 : List Entry) (x1 : List Entry) : Cl := (hres (C69 (eqEntryS x0 x1)), k2 (ok_laws_eqEntryS x0 x1))
def C29 (R : Bool) : LV × List (Nat × BC) := (.bool R, [])
def eqTerminology (x0 : Terminology) (x1 : Terminology) : Bool := bif (!(eqRuleS x0.rules x1.rules)) then false else (bif (!(eqEntryS x0.entries x1.entries)) then false else true)
def A29 (x0 : Terminology) (x1 : Terminology) : Ann := r0 1 [2, 3, 4] [2, 3] (.reg 1 [] [(4, k68 x0.rules x1.rules)] [2, 3, 4, 10] [2, 3] [] [] [] [0] (cn (!(eqRuleS x0.rules x1.rules)) (r0 1 [2, 3, 4] [2, 3] (rt [] (C29 false))) (.reg 1 [] [(4, k69 x0.entries x1.entries)] [4, 16] [] [] [] [] [0] (cn (!(eqEntryS x0.entries x1.entries)) (r0 1 [4] [] (rt [] (C29 false))) (r0 1 [4] [] (rt [] (C29 true)))))))
theorem ok_laws_eqTerminology (x0 : Terminology) (x1 : Terminology) (hx : x0.rules.length ≤ 1048576) (hr : ∀ r ∈ x0.rules, r.name.length ≤ 1048576 ∧ r.from0.length ≤ 1048576 ∧ r.to.length ≤ 1048576) (he : x0.entries.length ≤ 1048576) (hee : ∀ e ∈ x0.entries, e.term.length ≤ 1048576 ∧ e.type.steps.length ≤ 1048576) : FnT Try.prog 29 [.agg (cTerminology false x0), .agg (cTerminology false x1)] (C29 (eqTerminology x0 x1)) := by
  have aux : ∀ R, eqTerminology x0 x1 = R → slim (C29 R) (A29 x0 x1) [] := by
    intro R hR
    refine rg trivial ?_
    refine rg ⟨⟨by trivial, by trivial⟩, trivial⟩ ?_
    revert hR; refine cd (fun hc1 hR => ?_) fun hc1 hR => ?_
    ·
      refine rg trivial ?_
      exact congrArg C29 hR
    ·
      refine rg ⟨⟨by trivial, by trivial⟩, trivial⟩ ?_
      revert hR; refine cd (fun hc2 hR => ?_) fun hc2 hR => ?_
      ·
        refine rg trivial ?_
        exact congrArg C29 hR
      ·
        refine rg trivial ?_
        exact congrArg C29 hR
  exact Fn.go 17 Try.func29 (by kernel_rfl) (by kernel_rfl) (by simp [C29, Frs, FrsL]) (A29 x0 x1) (by kernel_rfl) (aux _ rfl)
def k29 (x0 : Terminology) (x1 : Terminology) : Cl := (hres (C29 (eqTerminology x0 x1)), k4 (ok_laws_eqTerminology x0 x1))
def C28 (R : Bool) : LV × List (Nat × BC) := (.bool R, [])
def eqLaw (x0 : Law) (x1 : Law) : Bool := bif (!decide (x0.degree = x1.degree)) then false else (bif (!decide (x0.canon = x1.canon)) then false else (bif (!decide (x0.affinity = x1.affinity)) then false else (bif (!decide (x0.age = x1.age)) then false else (bif (!decide (x0.wives = x1.wives)) then false else (bif (!decide (x0.husbands = x1.husbands)) then false else (bif (!(x0.patriline == x1.patriline)) then false else (bif (!(x0.matriline == x1.matriline)) then false else true)))))))
def A28 (x0 : Law) (x1 : Law) : Ann := r0 1 [2, 3, 4] [2, 3] (r0 1 [2, 3, 4, 9] [2, 3] (cn (!decide (x0.degree = x1.degree)) (r0 1 [2, 3, 4] [2, 3] (rt [] (C28 false))) (r0 1 [2, 3, 4, 14] [2, 3] (cn (!decide (x0.canon = x1.canon)) (r0 1 [2, 3, 4] [2, 3] (rt [] (C28 false))) (r0 1 [2, 3, 4, 19] [2, 3] (cn (!decide (x0.affinity = x1.affinity)) (r0 1 [2, 3, 4] [2, 3] (rt [] (C28 false))) (r0 1 [2, 3, 4, 24] [2, 3] (cn (!decide (x0.age = x1.age)) (r0 1 [2, 3, 4] [2, 3] (rt [] (C28 false))) (r0 1 [2, 3, 4, 29] [2, 3] (cn (!decide (x0.wives = x1.wives)) (r0 1 [2, 3, 4] [2, 3] (rt [] (C28 false))) (r0 1 [2, 3, 4, 34] [2, 3] (cn (!decide (x0.husbands = x1.husbands)) (r0 1 [2, 3, 4] [2, 3] (rt [] (C28 false))) (r0 1 [2, 3, 4, 39] [2, 3] (cn (!(x0.patriline == x1.patriline)) (r0 1 [2, 3, 4] [2, 3] (rt [] (C28 false))) (r0 1 [4, 44] [] (cn (!(x0.matriline == x1.matriline)) (r0 1 [4] [] (rt [] (C28 false))) (r0 1 [4] [] (rt [] (C28 true)))))))))))))))))))
theorem ok_laws_eqLaw (x0 : Law) (x1 : Law) : FnT Try.prog 28 [.agg (cLaw false x0), .agg (cLaw false x1)] (C28 (eqLaw x0 x1)) := by
  have aux : ∀ R, eqLaw x0 x1 = R → slim (C28 R) (A28 x0 x1) [] := by
    intro R hR
    refine rg trivial ?_
    refine rg trivial ?_
    revert hR; refine cd (fun hc1 hR => ?_) fun hc1 hR => ?_
    ·
      refine rg trivial ?_
      exact congrArg C28 hR
    ·
      refine rg trivial ?_
      revert hR; refine cd (fun hc2 hR => ?_) fun hc2 hR => ?_
      ·
        refine rg trivial ?_
        exact congrArg C28 hR
      ·
        refine rg trivial ?_
        revert hR; refine cd (fun hc3 hR => ?_) fun hc3 hR => ?_
        ·
          refine rg trivial ?_
          exact congrArg C28 hR
        ·
          refine rg trivial ?_
          revert hR; refine cd (fun hc4 hR => ?_) fun hc4 hR => ?_
          ·
            refine rg trivial ?_
            exact congrArg C28 hR
          ·
            refine rg trivial ?_
            revert hR; refine cd (fun hc5 hR => ?_) fun hc5 hR => ?_
            ·
              refine rg trivial ?_
              exact congrArg C28 hR
            ·
              refine rg trivial ?_
              revert hR; refine cd (fun hc6 hR => ?_) fun hc6 hR => ?_
              ·
                refine rg trivial ?_
                exact congrArg C28 hR
              ·
                refine rg trivial ?_
                revert hR; refine cd (fun hc7 hR => ?_) fun hc7 hR => ?_
                ·
                  refine rg trivial ?_
                  exact congrArg C28 hR
                ·
                  refine rg trivial ?_
                  revert hR; refine cd (fun hc8 hR => ?_) fun hc8 hR => ?_
                  ·
                    refine rg trivial ?_
                    exact congrArg C28 hR
                  ·
                    refine rg trivial ?_
                    exact congrArg C28 hR
  exact Fn.go 45 Try.func28 (by kernel_rfl) (by kernel_rfl) (by simp [C28, Frs, FrsL]) (A28 x0 x1) (by kernel_rfl) (aux _ rfl)
def k28 (x0 : Law) (x1 : Law) : Cl := (hres (C28 (eqLaw x0 x1)), k0 (ok_laws_eqLaw x0 x1))
def C30 (R : Bool) : LV × List (Nat × BC) := (.bool R, [])
def eqCustom (x0 : Custom) (x1 : Custom) : Bool := bif (!decide (x0.prefer = x1.prefer)) then false else (bif (!(x0.youngest == x1.youngest)) then false else (bif (!(x0.represent == x1.represent)) then false else true))
def A30 (x0 : Custom) (x1 : Custom) : Ann := r0 1 [2, 3, 4] [2, 3] (r0 1 [2, 3, 4, 9] [2, 3] (cn (!decide (x0.prefer = x1.prefer)) (r0 1 [2, 3, 4] [2, 3] (rt [] (C30 false))) (r0 1 [2, 3, 4, 14] [2, 3] (cn (!(x0.youngest == x1.youngest)) (r0 1 [2, 3, 4] [2, 3] (rt [] (C30 false))) (r0 1 [4, 19] [] (cn (!(x0.represent == x1.represent)) (r0 1 [4] [] (rt [] (C30 false))) (r0 1 [4] [] (rt [] (C30 true)))))))))
theorem ok_laws_eqCustom (x0 : Custom) (x1 : Custom) : FnT Try.prog 30 [.agg (cCustom false x0), .agg (cCustom false x1)] (C30 (eqCustom x0 x1)) := by
  have aux : ∀ R, eqCustom x0 x1 = R → slim (C30 R) (A30 x0 x1) [] := by
    intro R hR
    refine rg trivial ?_
    refine rg trivial ?_
    revert hR; refine cd (fun hc1 hR => ?_) fun hc1 hR => ?_
    ·
      refine rg trivial ?_
      exact congrArg C30 hR
    ·
      refine rg trivial ?_
      revert hR; refine cd (fun hc2 hR => ?_) fun hc2 hR => ?_
      ·
        refine rg trivial ?_
        exact congrArg C30 hR
      ·
        refine rg trivial ?_
        revert hR; refine cd (fun hc3 hR => ?_) fun hc3 hR => ?_
        ·
          refine rg trivial ?_
          exact congrArg C30 hR
        ·
          refine rg trivial ?_
          exact congrArg C30 hR
  exact Fn.go 20 Try.func30 (by kernel_rfl) (by kernel_rfl) (by simp [C30, Frs, FrsL]) (A30 x0 x1) (by kernel_rfl) (aux _ rfl)
def k30 (x0 : Custom) (x1 : Custom) : Cl := (hres (C30 (eqCustom x0 x1)), k0 (ok_laws_eqCustom x0 x1))
def C8 (R : Bool) : LV × List (Nat × BC) := (.bool R, [])
def eqRegister (x0 : Register) (x1 : Register) : Bool := bif (!(eqFamily x0.family x1.family)) then false else (bif (!(eqLaw x0.law x1.law)) then false else (bif (!(eqTerminology x0.terms x1.terms)) then false else (bif (!(eqCustom x0.custom x1.custom)) then false else true)))
def A8 (x0 : Register) (x1 : Register) : Ann := r0 1 [2, 3, 4] [2, 3] (.reg 1 [] [(4, k27 x0.family x1.family)] [2, 3, 4, 10] [2, 3] [] [] [] [0] (cn (!(eqFamily x0.family x1.family)) (r0 1 [2, 3, 4] [2, 3] (rt [] (C8 false))) (.reg 1 [] [(4, k28 x0.law x1.law)] [2, 3, 4, 16] [2, 3] [] [] [] [0] (cn (!(eqLaw x0.law x1.law)) (r0 1 [2, 3, 4] [2, 3] (rt [] (C8 false))) (.reg 1 [] [(4, k29 x0.terms x1.terms)] [2, 3, 4, 22] [2, 3] [] [] [] [0] (cn (!(eqTerminology x0.terms x1.terms)) (r0 1 [2, 3, 4] [2, 3] (rt [] (C8 false))) (.reg 1 [] [(4, k30 x0.custom x1.custom)] [4, 28] [] [] [] [] [0] (cn (!(eqCustom x0.custom x1.custom)) (r0 1 [4] [] (rt [] (C8 false))) (r0 1 [4] [] (rt [] (C8 true)))))))))))
theorem ok_laws_eqRegister (x0 : Register) (x1 : Register) (hp : x0.family.people.length ≤ 1048576 ∧ x0.family.unions.length ≤ 1048576) (hn : ∀ p ∈ x0.family.people, p.name.length ≤ 1048576) (hx : x0.terms.rules.length ≤ 1048576) (hr : ∀ r ∈ x0.terms.rules, r.name.length ≤ 1048576 ∧ r.from0.length ≤ 1048576 ∧ r.to.length ≤ 1048576) (he : x0.terms.entries.length ≤ 1048576) (hee : ∀ e ∈ x0.terms.entries, e.term.length ≤ 1048576 ∧ e.type.steps.length ≤ 1048576) : FnT Try.prog 8 [.agg (cRegister false x0), .agg (cRegister false x1)] (C8 (eqRegister x0 x1)) := by
  have aux : ∀ R, eqRegister x0 x1 = R → slim (C8 R) (A8 x0 x1) [] := by
    intro R hR
    refine rg trivial ?_
    refine rg ⟨by trivial, trivial⟩ ?_
    revert hR; refine cd (fun hc1 hR => ?_) fun hc1 hR => ?_
    ·
      refine rg trivial ?_
      exact congrArg C8 hR
    ·
      refine rg ⟨trivial, trivial⟩ ?_
      revert hR; refine cd (fun hc2 hR => ?_) fun hc2 hR => ?_
      ·
        refine rg trivial ?_
        exact congrArg C8 hR
      ·
        refine rg ⟨⟨by trivial, by trivial, by trivial, by trivial⟩, trivial⟩ ?_
        revert hR; refine cd (fun hc3 hR => ?_) fun hc3 hR => ?_
        ·
          refine rg trivial ?_
          exact congrArg C8 hR
        ·
          refine rg ⟨trivial, trivial⟩ ?_
          revert hR; refine cd (fun hc4 hR => ?_) fun hc4 hR => ?_
          ·
            refine rg trivial ?_
            exact congrArg C8 hR
          ·
            refine rg trivial ?_
            exact congrArg C8 hR
  exact Fn.go 29 Try.func8 (by kernel_rfl) (by kernel_rfl) (by simp [C8, Frs, FrsL]) (A8 x0 x1) (by kernel_rfl) (aux _ rfl)
def k8 (x0 : Register) (x1 : Register) : Cl := (hres (C8 (eqRegister x0 x1)), Go.Lite.k6 (ok_laws_eqRegister x0 x1))
end Go.Proofs.Ytaageiiodlfeiaa
