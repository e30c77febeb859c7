import Derived.Test.YtaooopgdcneohabV104
set_option maxHeartbeats 4000000
set_option linter.unusedSimpArgs false
set_option linter.unusedVariables false
namespace Go.Proofs.Ytaooopgdcneohab
open Go Go.Lite Go.Proofs
theorem may_eq (x : Family) (l : Law) (p q y : Int) : implMay x l p q y = specMay x l p q y := by
  have e : ((implHas x [p, q]) && (implIsLaw l)) = (((specIsLaw l) && (l1Has x p)) && (l1Has x q)) := by
    rw [isLaw_eq, has2_eq]; cases l1Has x p <;> cases l1Has x q <;> cases specIsLaw l <;> rfl
  unfold implMay specMay
  rw [e]
  cases h : (((specIsLaw l) && (l1Has x p)) && (l1Has x q))
  · rfl
  · rw [specImp_of]
    simp only [Bool.and_eq_true] at h
    rw [h.1.1, h.1.2, h.2]; rfl
theorem may_of {x : Family} {l : Law} {p q : Int} (hl : specIsLaw l = true) (hf : specIsFamily x = true) (hp : 0 ≤ p ∧ p < x.people.length) (hq : 0 ≤ q ∧ q < x.people.length) (y : Int) : specMay x l p q y = decide ((((impediments x l p q y).length : Nat) : Int) = 0) := by
  have h1 := (l1Has_iff x p).2 ⟨hp, hf⟩
  have h2 := (l1Has_iff x q).2 ⟨hq, hf⟩
  unfold specMay
  rw [specImp_of (by rw [hl, h1, h2]; rfl), hl, h1, h2]
  rfl
def C52 (R : Family) : LV × List (Nat × BC) := (.agg [.own 0, .own 1], [(0, .arr 6 R.people.length (rowOf (cPerson true) R.people)), (1, .arr 4 R.unions.length (rowOf (cUnion true) R.unions))])
def l1Copy (x0 : Family) : Family := x0
def A52 (x0 : Family) : Ann := .reg 5 [] [(2004, apN 9 (cPerson true) 56 x0.people), (3004, apN 15 (cUnion true) 32 x0.unions)] [2] [2, 9, 15] [] [] [] [0, 4] (rt [(0, some 9), (1, some 15)] (C52 x0))
theorem ok_spec_l1Copy (x0 : Family) (hx : x0.people.length ≤ 1048576) (hu : x0.unions.length ≤ 1048576) : FnT Try.prog 52 [.agg (cFamily false x0)] (C52 (l1Copy x0)) := by
  have aux : ∀ R, l1Copy x0 = R → slim (C52 R) (A52 x0) [] := by
    intro R hR
    refine rg ⟨by omega, by omega, trivial⟩ ?_
    exact congrArg C52 hR
  exact Fn.go 18 Try.func52 (by kernel_rfl) (by kernel_rfl) (by simp [C52, Frs, FrsL, FrsB, rowOf, cInt, cBool, cStr, cSl, FrsL_app, cPerson, cUnion, cFamily, cLaw]) (A52 x0) (by kernel_rfl) (aux _ rfl)
def k52 (x0 : Family) : Cl := (hres (C52 (l1Copy x0)), k2 (ok_spec_l1Copy x0))
def C54 (R : Family) : LV × List (Nat × BC) := (.agg [.own 0, .own 1], [(0, .arr 6 R.people.length (rowOf (cPerson true) R.people)), (1, .arr 4 R.unions.length (rowOf (cUnion true) R.unions))])
def copyFamily (x0 : Family) : Family := x0
def A54 (x0 : Family) : Ann := .reg 2 [] [(1002, apN 5 (cPerson true) 56 x0.people), (1005, apN 8 (cUnion true) 32 x0.unions)] [2] [2, 5, 8] [] [] [] [0, 4] (rt [(0, some 5), (1, some 8)] (C54 x0))
theorem ok_impl_copyFamily (x0 : Family) (hx : x0.people.length ≤ 1048576) (hu : x0.unions.length ≤ 1048576) : FnT Try.prog 54 [.agg (cFamily false x0)] (C54 (copyFamily x0)) := by
  have aux : ∀ R, copyFamily x0 = R → slim (C54 R) (A54 x0) [] := by
    intro R hR
    refine rg ⟨by omega, by omega, trivial⟩ ?_
    exact congrArg C54 hR
  exact Fn.go 10 Try.func54 (by kernel_rfl) (by kernel_rfl) (by simp [C54, Frs, FrsL, FrsB, rowOf, cInt, cBool, cStr, cSl, FrsL_app, cPerson, cUnion, cFamily, cLaw]) (A54 x0) (by kernel_rfl) (aux _ rfl)
def k54 (x0 : Family) : Cl := (hres (C54 (copyFamily x0)), k2 (ok_impl_copyFamily x0))
theorem may_fam {x : Family} {l : Law} {p q y : Int} (h : (!(specMay x l p q y)) = false) : x.people.length ≤ 40 ∧ x.unions.length ≤ 60 := by
  have h : specMay x l p q y = true := by simpa using h
  unfold specMay at h
  simp only [Bool.and_eq_true, l1Has_iff] at h
  exact fam_n h.1.1.2.2
end Go.Proofs.Ytaooopgdcneohab
