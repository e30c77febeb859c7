import Derived.Test.YtaooopgdcneohabM102
set_option maxHeartbeats 4000000
set_option linter.unusedSimpArgs false
set_option linter.unusedVariables false
namespace Go.Proofs.Ytaooopgdcneohab
open Go Go.Lite Go.Proofs
def C41 (R : (List Int)) : LV × List (Nat × BC) := (.own 0, [(0, .arr 1 R.length (rowOf (cInt .i64) R))])
def specImp (x0 : Family) (x1 : Law) (x2 : Int) (x3 : Int) (x4 : Int) : (List Int) := bif (((!(specIsLaw x1)) || (!(l1Has x0 x2))) || (!(l1Has x0 x3))) then ([] : List Int) else (l3Listed (l9Bars x0 x1 x2 x3 x4))
def A41 (x0 : Family) (x1 : Law) (x2 : Int) (x3 : Int) (x4 : Int) : Ann := r0 1 [2, 3, 4, 5, 6, 10] [5, 6] (.reg 1 [] [(1, k39 x1), (6, cg (!(!(specIsLaw x1))) (k67 x0 x2)), (12, cg (!((!(specIsLaw x1)) || (!(l1Has x0 x2)))) (k67 x0 x3))] [2, 3, 4, 5, 6, 10, 25] [5, 6] [!(!(specIsLaw x1)), !(specIsLaw x1), !((!(specIsLaw x1)) || (!(l1Has x0 x2))), (!(specIsLaw x1)) || (!(l1Has x0 x2))] [] [] [0, 1, 1, 4, 1, 6, 9, 9, 8, 9, 14] (cn (((!(specIsLaw x1)) || (!(l1Has x0 x2))) || (!(l1Has x0 x3))) (r0 1 [2, 3, 4, 5, 6, 10] [5, 6] (rt [(0, none)] (C41 ([] : List Int)))) (.reg 1 [] [(5, k78 x0 x1 x2 x3 x4), (6, k77 (l9Bars x0 x1 x2 x3 x4))] [10] [1032] [] [] [] [0, 4] (rt [(0, some 1032)] (C41 (l3Listed (l9Bars x0 x1 x2 x3 x4)))))))
theorem ok_spec_Impediments (x0 : Family) (x1 : Law) (x2 : Int) (x3 : Int) (x4 : Int) (hx : x0.people.length ≤ 1048576) (hu : x0.unions.length ≤ 1048576) (hn : ∀ p ∈ x0.people, p.name.length ≤ 1048576) : FnT Try.prog 41 [.agg (cFamily false x0), .agg (cLaw false x1), .int .i64 x2, .int .i64 x3, .int .i64 x4] (C41 (specImp x0 x1 x2 x3 x4)) := by
  have aux : ∀ R, specImp x0 x1 x2 x3 x4 = R → slim (C41 R) (A41 x0 x1 x2 x3 x4) [] := by
    intro R hR
    refine rg trivial ?_
    refine rg ⟨trivial, fun hg0 => ⟨by trivial, by trivial, by trivial⟩, fun hg0 => ⟨by trivial, by trivial, by trivial⟩, trivial⟩ ?_
    revert hR; refine cd (fun hc1 hR => ?_) fun hc1 hR => ?_
    ·
      refine rg trivial ?_
      exact congrArg C41 hR
    ·
      refine rg ⟨⟨by trivial, by trivial, by trivial, by (have h9 := imp_pre hc1; first | exact h9.1 | exact h9.2.1 | exact h9.2.2.1 | exact h9.2.2.2 | omega), by (have h9 := imp_pre hc1; first | exact h9.1 | exact h9.2.1 | exact h9.2.2.1 | exact h9.2.2.2 | omega), by (have h9 := imp_pre hc1; first | exact h9.1 | exact h9.2.1 | exact h9.2.2.1 | exact h9.2.2.2 | omega), by (have h9 := imp_pre hc1; first | exact h9.1 | exact h9.2.1 | exact h9.2.2.1 | exact h9.2.2.2 | omega)⟩, by (have h9 := l9Bars_len x0 x1 x2 x3 x4; omega), trivial⟩ ?_
      exact congrArg C41 hR
  exact Fn.go 33 Try.func41 (by kernel_rfl) (by kernel_rfl) (by simp [C41, Frs, FrsL, FrsB, rowOf, cInt, cBool, cStr, cSl, FrsL_app, cPerson, cUnion, cFamily, cLaw]) (A41 x0 x1 x2 x3 x4) (by kernel_rfl) (aux _ rfl)
def k41 (x0 : Family) (x1 : Law) (x2 : Int) (x3 : Int) (x4 : Int) : Cl := (hres (C41 (specImp x0 x1 x2 x3 x4)), k3 (ok_spec_Impediments x0 x1 x2 x3 x4))
theorem specImp_of {x : Family} {l : Law} {p q y : Int} (h : (((!(specIsLaw l)) || (!(l1Has x p))) || (!(l1Has x q))) = false) : specImp x l p q y = impediments x l p q y := by
  obtain ⟨h1, h2, h3, _⟩ := imp_pre h
  unfold specImp
  rw [h]
  exact (imp_core h1 h2 h3 l y).symm
theorem specImp_len (x : Family) (l : Law) (p q y : Int) : (specImp x l p q y).length ≤ 13 := by
  unfold specImp
  refine cond_both (p := fun (r : List Int) => r.length ≤ 13) (fun _ => by simp) (fun _ => ?_)
  have := l3Listed_len (l9Bars x l p q y)
  rw [l9Bars_len] at this
  exact this
theorem par_pre {x : Family} {l : Law} {p : Int} (h : ((!(specIsLaw l)) || (!(l1Has x p))) = false) : specIsFamily x = true ∧ (0 ≤ p ∧ p < x.people.length) ∧ 0 ≤ l.age ∧ l.age ≤ 99 := by
  simp only [or_f_iff, not_f_iff, l1Has_iff] at h
  exact ⟨h.2.2, h.2.1, specIsLaw_age h.1⟩
theorem has_law1 (x : Family) (l : Law) (p : Int) : ((!(implHas x [p])) || (!(implIsLaw l))) = ((!(specIsLaw l)) || (!(l1Has x p))) := by
  rw [isLaw_eq, has1_eq]
  cases l1Has x p <;> cases specIsLaw l <;> rfl
theorem par_pre2 {x : Family} {l : Law} {p : Int} (h : ((!(implHas x [p])) || (!(implIsLaw l))) = false) : specIsFamily x = true ∧ (0 ≤ p ∧ p < x.people.length) ∧ 0 ≤ l.age ∧ l.age ≤ 99 := par_pre (by rw [← has_law1]; exact h)
theorem impediments_len {x : Family} (hf : specIsFamily x = true) {p q : Int} (hp : 0 ≤ p ∧ p < x.people.length) (hq : 0 ≤ q ∧ q < x.people.length) (l : Law) (y : Int) : (impediments x l p q y).length ≤ 13 := by
  rw [imp_core hf hp hq]
  have := l3Listed_len (l9Bars x l p q y)
  rw [l9Bars_len] at this
  exact this
end Go.Proofs.Ytaooopgdcneohab
