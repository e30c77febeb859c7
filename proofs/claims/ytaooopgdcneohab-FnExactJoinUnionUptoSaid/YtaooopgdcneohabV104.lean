import Derived.Test.YtaooopgdcneohabM103
set_option maxHeartbeats 4000000
set_option linter.unusedSimpArgs false
set_option linter.unusedVariables false
namespace Go.Proofs.Ytaooopgdcneohab
open Go Go.Lite Go.Proofs
def C51 (R : Bool) : LV × List (Nat × BC) := (.bool R, [])
def specMay (x0 : Family) (x1 : Law) (x2 : Int) (x3 : Int) (x4 : Int) : Bool := (((specIsLaw x1) && (l1Has x0 x2)) && (l1Has x0 x3)) && (decide ((((specImp x0 x1 x2 x3 x4).length : Nat) : Int) = 0))
def A51 (x0 : Family) (x1 : Law) (x2 : Int) (x3 : Int) (x4 : Int) : Ann := .reg 2 [] [(1001, k39 x1), (1005, cg (specIsLaw x1) (k67 x0 x2)), (1010, cg ((specIsLaw x1) && (l1Has x0 x2)) (k67 x0 x3)), (1018, cg (((specIsLaw x1) && (l1Has x0 x2)) && (l1Has x0 x3)) (k41 x0 x1 x2 x3 x4))] [10] [] [specIsLaw x1, (specIsLaw x1) && (l1Has x0 x2), ((specIsLaw x1) && (l1Has x0 x2)) && (l1Has x0 x3)] [] [] [0, 1, 1, 4, 1, 5, 5, 8, 5, 9, 9, 9, 9, 9, 12, 9, 9, 9] (rt [] (C51 ((((specIsLaw x1) && (l1Has x0 x2)) && (l1Has x0 x3)) && (decide ((((specImp x0 x1 x2 x3 x4).length : Nat) : Int) = 0)))))
theorem ok_spec_MayMarry (x0 : Family) (x1 : Law) (x2 : Int) (x3 : Int) (x4 : Int) (hx : x0.people.length ≤ 1048576) (hu : x0.unions.length ≤ 1048576) (hn : ∀ p ∈ x0.people, p.name.length ≤ 1048576) : FnT Try.prog 51 [.agg (cFamily false x0), .agg (cLaw false x1), .int .i64 x2, .int .i64 x3, .int .i64 x4] (C51 (specMay x0 x1 x2 x3 x4)) := by
  have aux : ∀ R, specMay x0 x1 x2 x3 x4 = R → slim (C51 R) (A51 x0 x1 x2 x3 x4) [] := by
    intro R hR
    refine rg ⟨trivial, fun hg0 => ⟨by trivial, by trivial, by trivial⟩, fun hg0 => ⟨by trivial, by trivial, by trivial⟩, fun hg0 => ⟨by trivial, by trivial, by trivial⟩, trivial⟩ ?_
    exact congrArg C51 hR
  exact Fn.go 33 Try.func51 (by kernel_rfl) (by kernel_rfl) (by simp [C51, Frs, FrsL]) (A51 x0 x1 x2 x3 x4) (by kernel_rfl) (aux _ rfl)
def k51 (x0 : Family) (x1 : Law) (x2 : Int) (x3 : Int) (x4 : Int) : Cl := (hres (C51 (specMay x0 x1 x2 x3 x4)), k3 (ok_spec_MayMarry x0 x1 x2 x3 x4))
def C53 (R : Bool) : LV × List (Nat × BC) := (.bool R, [])
def implMay (x0 : Family) (x1 : Law) (x2 : Int) (x3 : Int) (x4 : Int) : Bool := ((implHas x0 [x2, x3]) && (implIsLaw x1)) && (decide ((((impediments x0 x1 x2 x3 x4).length : Nat) : Int) = 0))
def A53 (x0 : Family) (x1 : Law) (x2 : Int) (x3 : Int) (x4 : Int) : Ann := .reg 2 [] [(1003, bsC 14 (cInt .i64) ([x2, x3] : List Int)), (1004, k69 x0 [x2, x3]), (1007, cg (implHas x0 [x2, x3]) (k45 x1)), (1015, cg ((implHas x0 [x2, x3]) && (implIsLaw x1)) (k46 x0 x1 x2 x3 x4))] [10] [] [implHas x0 [x2, x3], (implHas x0 [x2, x3]) && (implIsLaw x1)] [] [] [0, 4, 1, 8, 1, 5, 5, 5, 5, 5, 12, 5, 5, 5] (rt [] (C53 (((implHas x0 [x2, x3]) && (implIsLaw x1)) && (decide ((((impediments x0 x1 x2 x3 x4).length : Nat) : Int) = 0)))))
theorem ok_impl_MayMarry (x0 : Family) (x1 : Law) (x2 : Int) (x3 : Int) (x4 : Int) (hx : x0.people.length ≤ 1048576) (hu : x0.unions.length ≤ 1048576) (hn : ∀ p ∈ x0.people, p.name.length ≤ 1048576) : FnT Try.prog 53 [.agg (cFamily false x0), .agg (cLaw false x1), .int .i64 x2, .int .i64 x3, .int .i64 x4] (C53 (implMay x0 x1 x2 x3 x4)) := by
  have aux : ∀ R, implMay x0 x1 x2 x3 x4 = R → slim (C53 R) (A53 x0 x1 x2 x3 x4) [] := by
    intro R hR
    refine rg ⟨trivial, ⟨by trivial, by trivial, by trivial, by ((try clear hR); intros; (try simp only [decide_eq_true_eq, decide_eq_false_iff_not, Bool.or_eq_true, Bool.and_eq_true, or_f_iff, not_f_iff, not_t_iff, Bool.not_eq_true', inR] at *); (repeat' apply And.intro) <;> (simp_all [inR]; done))⟩, fun hg0 => trivial, fun hg0 => ⟨by trivial, by (have h9 := imp_pre3 (by assumption); first | exact h9.1 | exact h9.2.1 | exact h9.2.2.1 | exact h9.2.2.2 | omega), by trivial, by (have h9 := imp_pre3 (by assumption); first | exact h9.1 | exact h9.2.1 | exact h9.2.2.1 | exact h9.2.2.2 | omega), by (have h9 := imp_pre3 (by assumption); first | exact h9.1 | exact h9.2.1 | exact h9.2.2.1 | exact h9.2.2.2 | omega), by (have h9 := imp_pre3 (by assumption); first | exact h9.1 | exact h9.2.1 | exact h9.2.2.1 | exact h9.2.2.2 | omega)⟩, trivial⟩ ?_
    exact congrArg C53 hR
  exact Fn.go 30 Try.func53 (by kernel_rfl) (by kernel_rfl) (by simp [C53, Frs, FrsL]) (A53 x0 x1 x2 x3 x4) (by kernel_rfl) (aux _ rfl)
def k53 (x0 : Family) (x1 : Law) (x2 : Int) (x3 : Int) (x4 : Int) : Cl := (hres (C53 (implMay x0 x1 x2 x3 x4)), k3 (ok_impl_MayMarry x0 x1 x2 x3 x4))
end Go.Proofs.Ytaooopgdcneohab
