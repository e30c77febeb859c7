import Derived.Test.YtanfabaedopeiaaM234
set_option maxHeartbeats 4000000
set_option linter.unusedSimpArgs false
set_option linter.unusedVariables false
namespace Go.Proofs.Ytanfabaedopeiaa
open Go Go.Lite Go.Proofs
structure Law where
  degree : Int
  canon : Int
  affinity : Int
  age : Int
  wives : Int
  husbands : Int
  patriline : Bool
  matriline : Bool
  deriving Inhabited
def cLaw (fr : Bool) (x : Law) : List LV := cInt .i64 x.degree ++ cInt .i64 x.canon ++ cInt .i64 x.affinity ++ cInt .i64 x.age ++ cInt .i64 x.wives ++ cInt .i64 x.husbands ++ cBool x.patriline ++ cBool x.matriline

structure Custom where
  prefer : Int
  youngest : Bool
  represent : Bool
  deriving Inhabited
def cCustom (fr : Bool) (x : Custom) : List LV := cInt .i64 x.prefer ++ cBool x.youngest ++ cBool x.represent

structure Register where
  family : Family
  law : Law
  terms : Terminology
  custom : Custom
  deriving Inhabited
def cRegister (fr : Bool) (x : Register) : List LV := cFamily fr x.family ++ cLaw fr x.law ++ cTerminology fr x.terms ++ cCustom fr x.custom

def C101 (R : Bool) : LV × List (Nat × BC) := (.bool R, [])
def lawIn (x0 : Int) (x1 : Int) (x2 : Int) : Bool := (decide (x1 ≤ x0)) && (decide (x0 ≤ x2))
def A101 (x0 : Int) (x1 : Int) (x2 : Int) : Ann := .reg 2 [] [] [6] [] [decide (x1 ≤ x0)] [] [] [1, 1, 1] (rt [] (C101 ((decide (x1 ≤ x0)) && (decide (x0 ≤ x2)))))
theorem ok_impl_IsLaw_1 (x0 : Int) (x1 : Int) (x2 : Int) : FnT Try.prog 101 [.int .i64 x0, .int .i64 x1, .int .i64 x2] (C101 (lawIn x0 x1 x2)) := by
  have aux : ∀ R, lawIn x0 x1 x2 = R → slim (C101 R) (A101 x0 x1 x2) [] := by
    intro R hR
    refine rg trivial ?_
    exact congrArg C101 hR
  exact Fn.go 15 Try.func101 (by kernel_rfl) (by kernel_rfl) (by simp [C101, Frs, FrsL]) (A101 x0 x1 x2) (by kernel_rfl) (aux _ rfl)
def k101 (x0 : Int) (x1 : Int) (x2 : Int) : Cl := (hres (C101 (lawIn x0 x1 x2)), k0 (ok_impl_IsLaw_1 x0 x1 x2))
def C41 (R : Bool) : LV × List (Nat × BC) := (.bool R, [])
def implIsLaw (x0 : Law) : Bool := (((((lawIn x0.degree 0 20) && (lawIn x0.affinity 0 20)) && (lawIn x0.canon 0 10)) && (lawIn x0.age 0 99)) && (lawIn x0.wives 1 9)) && (lawIn x0.husbands 1 9)
def A41 (x0 : Law) : Ann := .reg 3 [] [(2003, k101 x0.degree 0 20), (2008, cg (lawIn x0.degree 0 20) (k101 x0.affinity 0 20)), (2014, cg ((lawIn x0.degree 0 20) && (lawIn x0.affinity 0 20)) (k101 x0.canon 0 10)), (2020, cg (((lawIn x0.degree 0 20) && (lawIn x0.affinity 0 20)) && (lawIn x0.canon 0 10)) (k101 x0.age 0 99)), (2026, cg ((((lawIn x0.degree 0 20) && (lawIn x0.affinity 0 20)) && (lawIn x0.canon 0 10)) && (lawIn x0.age 0 99)) (k101 x0.wives 1 9)), (2032, cg (((((lawIn x0.degree 0 20) && (lawIn x0.affinity 0 20)) && (lawIn x0.canon 0 10)) && (lawIn x0.age 0 99)) && (lawIn x0.wives 1 9)) (k101 x0.husbands 1 9))] [2] [] [lawIn x0.degree 0 20, (lawIn x0.degree 0 20) && (lawIn x0.affinity 0 20), ((lawIn x0.degree 0 20) && (lawIn x0.affinity 0 20)) && (lawIn x0.canon 0 10), (((lawIn x0.degree 0 20) && (lawIn x0.affinity 0 20)) && (lawIn x0.canon 0 10)) && (lawIn x0.age 0 99), ((((lawIn x0.degree 0 20) && (lawIn x0.affinity 0 20)) && (lawIn x0.canon 0 10)) && (lawIn x0.age 0 99)) && (lawIn x0.wives 1 9)] [] [] [0, 1, 1, 1, 4, 1, 5, 5, 5, 8, 5, 9, 9, 9, 12, 9, 13, 13, 13, 16, 13, 17, 17, 17, 20, 17] (rt [] (C41 ((((((lawIn x0.degree 0 20) && (lawIn x0.affinity 0 20)) && (lawIn x0.canon 0 10)) && (lawIn x0.age 0 99)) && (lawIn x0.wives 1 9)) && (lawIn x0.husbands 1 9))))
theorem ok_impl_IsLaw (x0 : Law) : FnT Try.prog 41 [.agg (cLaw false x0)] (C41 (implIsLaw x0)) := by
  have aux : ∀ R, implIsLaw x0 = R → slim (C41 R) (A41 x0) [] := by
    intro R hR
    refine rg ⟨trivial, fun hg0 => trivial, fun hg0 => trivial, fun hg0 => trivial, fun hg0 => trivial, fun hg0 => trivial, trivial⟩ ?_
    exact congrArg C41 hR
  exact Fn.go 38 Try.func41 (by kernel_rfl) (by kernel_rfl) (by simp [C41, Frs, FrsL]) (A41 x0) (by kernel_rfl) (aux _ rfl)
def k41 (x0 : Law) : Cl := (hres (C41 (implIsLaw x0)), k0 (ok_impl_IsLaw x0))
def C33 (R : Bool) : LV × List (Nat × BC) := (.bool R, [])
def specIsLaw (x0 : Law) : Bool := (((((l1In x0.degree 0 20) && (l1In x0.canon 0 10)) && (l1In x0.affinity 0 20)) && (l1In x0.age 0 99)) && (l1In x0.wives 1 9)) && (l1In x0.husbands 1 9)
def A33 (x0 : Law) : Ann := .reg 2 [] [(1002, k87 x0.degree 0 20), (1006, cg (l1In x0.degree 0 20) (k87 x0.canon 0 10)), (1011, cg ((l1In x0.degree 0 20) && (l1In x0.canon 0 10)) (k87 x0.affinity 0 20)), (1016, cg (((l1In x0.degree 0 20) && (l1In x0.canon 0 10)) && (l1In x0.affinity 0 20)) (k87 x0.age 0 99)), (1021, cg ((((l1In x0.degree 0 20) && (l1In x0.canon 0 10)) && (l1In x0.affinity 0 20)) && (l1In x0.age 0 99)) (k87 x0.wives 1 9)), (1026, cg (((((l1In x0.degree 0 20) && (l1In x0.canon 0 10)) && (l1In x0.affinity 0 20)) && (l1In x0.age 0 99)) && (l1In x0.wives 1 9)) (k87 x0.husbands 1 9))] [2] [] [l1In x0.degree 0 20, (l1In x0.degree 0 20) && (l1In x0.canon 0 10), ((l1In x0.degree 0 20) && (l1In x0.canon 0 10)) && (l1In x0.affinity 0 20), (((l1In x0.degree 0 20) && (l1In x0.canon 0 10)) && (l1In x0.affinity 0 20)) && (l1In x0.age 0 99), ((((l1In x0.degree 0 20) && (l1In x0.canon 0 10)) && (l1In x0.affinity 0 20)) && (l1In x0.age 0 99)) && (l1In x0.wives 1 9)] [] [] [0, 1, 1, 4, 1, 5, 5, 8, 5, 9, 9, 12, 9, 13, 13, 16, 13, 17, 17, 20, 17] (rt [] (C33 ((((((l1In x0.degree 0 20) && (l1In x0.canon 0 10)) && (l1In x0.affinity 0 20)) && (l1In x0.age 0 99)) && (l1In x0.wives 1 9)) && (l1In x0.husbands 1 9))))
theorem ok_spec_IsLaw (x0 : Law) : FnT Try.prog 33 [.agg (cLaw false x0)] (C33 (specIsLaw x0)) := by
  have aux : ∀ R, specIsLaw x0 = R → slim (C33 R) (A33 x0) [] := by
    intro R hR
    refine rg ⟨trivial, fun hg0 => trivial, fun hg0 => trivial, fun hg0 => trivial, fun hg0 => trivial, fun hg0 => trivial, trivial⟩ ?_
    exact congrArg C33 hR
  exact Fn.go 31 Try.func33 (by kernel_rfl) (by kernel_rfl) (by simp [C33, Frs, FrsL]) (A33 x0) (by kernel_rfl) (aux _ rfl)
def k33 (x0 : Law) : Cl := (hres (C33 (specIsLaw x0)), k0 (ok_spec_IsLaw x0))
def C37 (R : Law) : LV × List (Nat × BC) := (.agg [.int .i64 R.degree, .int .i64 R.canon, .int .i64 R.affinity, .int .i64 R.age, .int .i64 R.wives, .int .i64 R.husbands, .bool R.patriline, .bool R.matriline], [])
def laws_toLaw_m (x0 : Law) : Law := x0
def A37 (x0 : Law) : Ann := r0 11 [2] [2] (rt [] (C37 x0))
theorem ok_laws_toLaw (x0 : Law) : FnT Try.prog 37 [.agg (cLaw false x0)] (C37 x0) := by
  have aux : ∀ R, laws_toLaw_m x0 = R → slim (C37 R) (A37 x0) [] := by
    intro R hR
    refine rg trivial ?_
    exact congrArg C37 hR
  exact Fn.go 29 Try.func37 (by kernel_rfl) (by kernel_rfl) (by simp [C37, Frs, FrsL]) (A37 x0) (by kernel_rfl) (aux _ rfl)
def k37 (x0 : Law) : Cl := (hres (C37 x0), k0 (ok_laws_toLaw x0))
def C35 (R : Bool) : LV × List (Nat × BC) := (.bool R, [])
def specIsCustom (x0 : Custom) : Bool := l1In x0.prefer 0 4
def A35 (x0 : Custom) : Ann := .reg 2 [] [(1002, k87 x0.prefer 0 4)] [2] [] [] [] [] [0] (rt [] (C35 (l1In x0.prefer 0 4)))
theorem ok_spec_IsCustom (x0 : Custom) : FnT Try.prog 35 [.agg (cCustom false x0)] (C35 (specIsCustom x0)) := by
  have aux : ∀ R, specIsCustom x0 = R → slim (C35 R) (A35 x0) [] := by
    intro R hR
    refine rg ⟨trivial, trivial⟩ ?_
    exact congrArg C35 hR
  exact Fn.go 6 Try.func35 (by kernel_rfl) (by kernel_rfl) (by simp [C35, Frs, FrsL]) (A35 x0) (by kernel_rfl) (aux _ rfl)
def k35 (x0 : Custom) : Cl := (hres (C35 (specIsCustom x0)), k0 (ok_spec_IsCustom x0))
def C43 (R : Bool) : LV × List (Nat × BC) := (.bool R, [])
def implIsCustom (x0 : Custom) : Bool := (decide (0 ≤ x0.prefer)) && (decide (x0.prefer ≤ 4))
def A43 (x0 : Custom) : Ann := .reg 2 [] [] [2] [] [decide (0 ≤ x0.prefer)] [] [] [1, 1, 1] (rt [] (C43 ((decide (0 ≤ x0.prefer)) && (decide (x0.prefer ≤ 4)))))
theorem ok_impl_IsCustom (x0 : Custom) : FnT Try.prog 43 [.agg (cCustom false x0)] (C43 (implIsCustom x0)) := by
  have aux : ∀ R, implIsCustom x0 = R → slim (C43 R) (A43 x0) [] := by
    intro R hR
    refine rg trivial ?_
    exact congrArg C43 hR
  exact Fn.go 11 Try.func43 (by kernel_rfl) (by kernel_rfl) (by simp [C43, Frs, FrsL]) (A43 x0) (by kernel_rfl) (aux _ rfl)
def k43 (x0 : Custom) : Cl := (hres (C43 (implIsCustom x0)), k0 (ok_impl_IsCustom x0))
def C39 (R : Custom) : LV × List (Nat × BC) := (.agg [.int .i64 R.prefer, .bool R.youngest, .bool R.represent], [])
def laws_toCustom_m (x0 : Custom) : Custom := x0
def A39 (x0 : Custom) : Ann := r0 6 [2] [2] (rt [] (C39 x0))
theorem ok_laws_toCustom (x0 : Custom) : FnT Try.prog 39 [.agg (cCustom false x0)] (C39 x0) := by
  have aux : ∀ R, laws_toCustom_m x0 = R → slim (C39 R) (A39 x0) [] := by
    intro R hR
    refine rg trivial ?_
    exact congrArg C39 hR
  exact Fn.go 14 Try.func39 (by kernel_rfl) (by kernel_rfl) (by simp [C39, Frs, FrsL]) (A39 x0) (by kernel_rfl) (aux _ rfl)
def k39 (x0 : Custom) : Cl := (hres (C39 x0), k0 (ok_laws_toCustom x0))
def C10 (R : Bool) : LV × List (Nat × BC) := (.bool R, [])
def implIsReg (x0 : Register) : Bool := (((implIsFamily x0.family) && (implIsLaw x0.law)) && (implTerms x0.terms)) && (implIsCustom x0.custom)
def A10 (x0 : Register) : Ann := .reg 2 [] [(1002, k40 x0.family), (1006, cg (implIsFamily x0.family) (k41 x0.law)), (1011, cg ((implIsFamily x0.family) && (implIsLaw x0.law)) (k42 x0.terms)), (1016, cg (((implIsFamily x0.family) && (implIsLaw x0.law)) && (implTerms x0.terms)) (k43 x0.custom))] [2] [] [implIsFamily x0.family, (implIsFamily x0.family) && (implIsLaw x0.law), ((implIsFamily x0.family) && (implIsLaw x0.law)) && (implTerms x0.terms)] [] [] [0, 1, 1, 4, 1, 5, 5, 8, 5, 9, 9, 12, 9] (rt [] (C10 ((((implIsFamily x0.family) && (implIsLaw x0.law)) && (implTerms x0.terms)) && (implIsCustom x0.custom))))
theorem ok_impl_IsRegister (x0 : Register) (hp : x0.family.people.length ≤ 1048576 ∧ x0.family.unions.length ≤ 1048576) (hn : ∀ p ∈ x0.family.people, p.name.length ≤ 1048576) (hx : x0.terms.rules.length ≤ 1048576) (hr : ∀ r ∈ x0.terms.rules, r.name.length ≤ 1048576 ∧ r.from0.length ≤ 1048576 ∧ r.to.length ≤ 1048576) (he : x0.terms.entries.length ≤ 1048576) (hee : ∀ e ∈ x0.terms.entries, e.term.length ≤ 1048576 ∧ e.type.steps.length ≤ 1048576) : FnT Try.prog 10 [.agg (cRegister false x0)] (C10 (implIsReg x0)) := by
  have aux : ∀ R, implIsReg x0 = R → slim (C10 R) (A10 x0) [] := by
    intro R hR
    refine rg ⟨⟨by (intros; omega), by (intros; omega), by trivial⟩, fun hg0 => trivial, fun hg0 => ⟨by trivial, by trivial, by trivial, by trivial⟩, fun hg0 => trivial, trivial⟩ ?_
    exact congrArg C10 hR
  exact Fn.go 21 Try.func10 (by kernel_rfl) (by kernel_rfl) (by simp [C10, Frs, FrsL]) (A10 x0) (by kernel_rfl) (aux _ rfl)
def k10 (x0 : Register) : Cl := (hres (C10 (implIsReg x0)), k6 (ok_impl_IsRegister x0))
def C8 (R : Bool) : LV × List (Nat × BC) := (.bool R, [])
def specIsReg (x0 : Register) : Bool := (((specIsFamily x0.family) && (specIsLaw x0.law)) && (specTerms x0.terms)) && (specIsCustom x0.custom)
def A8 (x0 : Register) : Ann := .reg 2 [] [(1002, k32 x0.family), (1006, cg (specIsFamily x0.family) (k33 x0.law)), (1011, cg ((specIsFamily x0.family) && (specIsLaw x0.law)) (k34 x0.terms)), (1016, cg (((specIsFamily x0.family) && (specIsLaw x0.law)) && (specTerms x0.terms)) (k35 x0.custom))] [2] [] [specIsFamily x0.family, (specIsFamily x0.family) && (specIsLaw x0.law), ((specIsFamily x0.family) && (specIsLaw x0.law)) && (specTerms x0.terms)] [] [] [0, 1, 1, 4, 1, 5, 5, 8, 5, 9, 9, 12, 9] (rt [] (C8 ((((specIsFamily x0.family) && (specIsLaw x0.law)) && (specTerms x0.terms)) && (specIsCustom x0.custom))))
theorem ok_spec_IsRegister (x0 : Register) (hp : x0.family.people.length ≤ 1048576 ∧ x0.family.unions.length ≤ 1048576) (hn : ∀ p ∈ x0.family.people, p.name.length ≤ 1048576) (hx : x0.terms.rules.length ≤ 1048576) (hr : ∀ r ∈ x0.terms.rules, r.name.length ≤ 1048576 ∧ r.from0.length ≤ 1048576 ∧ r.to.length ≤ 1048576) (he : x0.terms.entries.length ≤ 1048576) (hee : ∀ e ∈ x0.terms.entries, e.term.length ≤ 1048576 ∧ e.type.steps.length ≤ 1048576) : FnT Try.prog 8 [.agg (cRegister false x0)] (C8 (specIsReg x0)) := by
  have aux : ∀ R, specIsReg x0 = R → slim (C8 R) (A8 x0) [] := by
    intro R hR
    refine rg ⟨⟨by (intros; omega), by (intros; omega), by trivial⟩, fun hg0 => trivial, fun hg0 => ⟨by trivial, by trivial, by trivial, by trivial⟩, fun hg0 => trivial, trivial⟩ ?_
    exact congrArg C8 hR
  exact Fn.go 21 Try.func8 (by kernel_rfl) (by kernel_rfl) (by simp [C8, Frs, FrsL]) (A8 x0) (by kernel_rfl) (aux _ rfl)
def k8 (x0 : Register) : Cl := (hres (C8 (specIsReg x0)), k6 (ok_spec_IsRegister x0))
end Go.Proofs.Ytanfabaedopeiaa
