import Derived.Test.YtanfabaedopeiaaM231
set_option maxHeartbeats 4000000
set_option linter.unusedSimpArgs false
set_option linter.unusedVariables false
namespace Go.Proofs.Ytanfabaedopeiaa
open Go Go.Lite Go.Proofs
def C167 (R : KinType × Int × Int × Bool) : LV × List (Nat × BC) := (.tup [.agg [.int .i64 R.1.ego, .own 0], .int .i64 R.2.1, .int .i64 R.2.2.1, .bool R.2.2.2], [(0, .arr 2 R.1.steps.length (rowOf (cStep true) R.1.steps))])
def implRewrite (x0 : List Rule) (x1 : KinType) : KinType × Int × Int × Bool := loopN (fun i1 (v1 : Unit) nx1 => loopN (fun i2 (v2 : Unit) next => bif (fitsAt (x0.getD i2 default) x1 ((i1 : Nat) : Int)) then ((replacedAt (x0.getD i2 default) x1 ((i1 : Nat) : Int)), ((i2 : Nat) : Int), ((i1 : Nat) : Int), true) else (next ())) (fun (v2 : Unit) => nx1 ()) x0.length 0 ()) (fun (v1 : Unit) => ((KinType.mk 0 ([] : List Step)), 0, 0, false)) x1.steps.length 0 ()
def D167b1 (x0 : List Rule) (x1 : KinType) (i1 : Nat) (v1 : Unit) : Dl := ⟨[(14, .int .i64 ((i1 : Nat) : Int))], []⟩
def D167b2 (x0 : List Rule) (x1 : KinType) (i1 : Nat) (v1 : Unit) (i2 : Nat) (v2 : Unit) : Dl := ⟨[(19, .int .i64 ((i2 : Nat) : Int))], []⟩
def A167b2 (x0 : List Rule) (x1 : KinType) (i1 : Nat) (v1 : Unit) (i2 : Nat) (v2 : Unit) : Ann := r0 1 [0, 3, 4, 5, 6, 7, 8, 13, 14, 17, 18, 19, 20] [3, 4] (cn (decide (((i2 : Nat) : Int) < ((x0.length : Nat) : Int))) (.reg 2 [] [(1003, k216 (x0.getD i2 default) x1 ((i1 : Nat) : Int))] [0, 3, 4, 5, 6, 7, 8, 9, 10, 13, 14, 17, 18, 19, 27] [3, 4, 10] [] [pf (0 ≤ (((i2 : Nat) : Int) : Int) ∧ (((i2 : Nat) : Int) : Int) < ((x0.length : Nat) : Int))] [] [0, 4] (cn (fitsAt (x0.getD i2 default) x1 ((i1 : Nat) : Int)) (.reg 1 [] [(3, k217 (x0.getD i2 default) x1 ((i1 : Nat) : Int))] [0, 3, 4, 5, 6, 7, 8, 13, 14, 17, 18, 19] [3, 4, 1031] [] [] [] [0] (rt [(0, some 1031)] (C167 ((replacedAt (x0.getD i2 default) x1 ((i1 : Nat) : Int)), ((i2 : Nat) : Int), ((i1 : Nat) : Int), true)))) (r1 1 [0, 3, 4, 5, 6, 7, 8, 13, 14, 17, 18, 19] [3, 4] [pf (inR .i64 (((i2 : Nat) : Int) + 1))] [0] (.next 0 [] (D167b2 x0 x1 i1 v1 (i2 + 1) ()))))) (r1 1 [0, 3, 4, 5, 6, 7, 13, 14] [3, 4] [pf (inR .i64 (((i1 : Nat) : Int) + 1))] [0] (.next 1 [] (D167b1 x0 x1 (i1 + 1) ()))))
def A167b1 (x0 : List Rule) (x1 : KinType) (i1 : Nat) (v1 : Unit) : Ann := r0 1 [0, 3, 4, 5, 6, 7, 13, 14, 15] [3, 4] (cn (decide (((i1 : Nat) : Int) < ((x1.steps.length : Nat) : Int))) (r0 2 [0, 3, 4, 5, 6, 7, 8, 13, 14, 17, 18, 19] [3, 4] (lp (D167b2 x0 x1 i1 v1) [] [] [] (D167b2 x0 x1 i1 v1 0 ()) (A167b2 x0 x1 i1 v1))) (r0 1 [4, 5, 6, 7] [4] (rt [(0, none)] (C167 ((KinType.mk 0 ([] : List Step)), 0, 0, false)))))
def A167 (x0 : List Rule) (x1 : KinType) : Ann := r0 1 [0, 3, 4, 5, 6, 7] [3, 4] (r0 1 [0, 3, 4, 5, 6, 7, 13, 14] [3, 4] (lp (D167b1 x0 x1) [] [] [] (D167b1 x0 x1 0 ()) (A167b1 x0 x1)))
theorem ok_impl_rewrite (x0 : List Rule) (x1 : KinType) (hx : x0.length ≤ 1048576) (hr : ∀ r ∈ x0, r.name.length ≤ 1048576 ∧ r.from0.length ≤ 1048576 ∧ r.to.length ≤ 1048576) (ht : x1.steps.length ≤ 1048576) : FnT Try.prog 167 [.ro false 5 x0.length (rowOf (cRule false) x0), .agg (cKinType false x1)] (C167 (implRewrite x0 x1)) := by
  have aux : ∀ R, implRewrite x0 x1 = R → slim (C167 R) (A167 x0 x1) [] := by
    intro R hR
    refine rg trivial ?_
    refine rg trivial ?_
    revert hR; refine lN (fun i v => True) (by trivial) rfl fun i1 v1 F1 hn1 hI1 hR hK1 => ?_
    refine rg trivial ?_
    refine ⟨fun hc1 => ?_, fun hc1 => ?_⟩
    · have hii1 : i1 < x1.steps.length := by have := of_decide_eq_true hc1; omega
      replace hR := loopN_step hR hii1
      refine rg trivial ?_
      revert hR; refine lN (fun i v => True) (by trivial) rfl fun i2 v2 F2 hn2 hI2 hR hK2 => ?_
      refine rg trivial ?_
      refine ⟨fun hc2 => ?_, fun hc2 => ?_⟩
      · have hii2 : i2 < x0.length := by have := of_decide_eq_true hc2; omega
        replace hR := loopN_step hR hii2
        refine rg ⟨by (intros; omega), ⟨by (exact hr _ (getD_mem (d := default) hii2)), by trivial⟩, trivial⟩ ?_
        revert hR; refine cd (fun hc3 hR => ?_) fun hc3 hR => ?_
        ·
          refine rg ⟨⟨by (exact hr _ (getD_mem (d := default) hii2)), by trivial, by (have h9 := (fits_iff _ _ _).1 hc3; omega)⟩, trivial⟩ ?_
          exact congrArg C167 hR
        ·
          refine rg ⟨by ( intros; simp only [inR]; omega), trivial⟩ ?_
          exact hK2 () hii2 (by trivial) hR
      · obtain rfl : i2 = x0.length := by have := of_decide_eq_false hc2; omega
        replace hR := loopN_end hR (Nat.lt_irrefl _)
        refine rg ⟨by ( intros; simp only [inR]; omega), trivial⟩ ?_
        exact hK1 () hii1 (by trivial) hR
    · obtain rfl : i1 = x1.steps.length := by have := of_decide_eq_false hc1; omega
      replace hR := loopN_end hR (Nat.lt_irrefl _)
      refine rg trivial ?_
      exact congrArg C167 hR
  exact Fn.go 37 Try.func167 (by kernel_rfl) (by kernel_rfl) (by simp [C167, Frs, FrsL, FrsB, rowOf, cInt, cBool, cStr, cSl, FrsL_app, cPerson, cUnion, cFamily, cStep, cKinType, cRule]) (A167 x0 x1) (by kernel_rfl) (aux _ rfl)
def k167 (x0 : List Rule) (x1 : KinType) : Cl := (hres (C167 (implRewrite x0 x1)), k3 (ok_impl_rewrite x0 x1))
def C160 (R : KinType × Int × Int × Bool) : LV × List (Nat × BC) := (.tup [.agg [.int .i64 R.1.ego, .own 0], .int .i64 R.2.1, .int .i64 R.2.2.1, .bool R.2.2.2], [(0, .arr 2 R.1.steps.length (rowOf (cStep true) R.1.steps))])
def l4Step (x0 : List Rule) (x1 : KinType) : KinType × Int × Int × Bool := loopN (fun i1 (v1 : Unit) nx1 => loopN (fun i2 (v2 : Unit) next => bif (l4Fits (x0.getD i2 default) x1 ((i1 : Nat) : Int)) then ((l4Replace (x0.getD i2 default) x1 ((i1 : Nat) : Int)), ((i2 : Nat) : Int), ((i1 : Nat) : Int), true) else (next ())) (fun (v2 : Unit) => nx1 ()) x0.length 0 ()) (fun (v1 : Unit) => ((KinType.mk 0 ([] : List Step)), 0, 0, false)) x1.steps.length 0 ()
def D160b1 (x0 : List Rule) (x1 : KinType) (i1 : Nat) (v1 : Unit) : Dl := ⟨[(14, .int .i64 ((i1 : Nat) : Int))], []⟩
def D160b2 (x0 : List Rule) (x1 : KinType) (i1 : Nat) (v1 : Unit) (i2 : Nat) (v2 : Unit) : Dl := ⟨[(19, .int .i64 ((i2 : Nat) : Int))], []⟩
def A160b2 (x0 : List Rule) (x1 : KinType) (i1 : Nat) (v1 : Unit) (i2 : Nat) (v2 : Unit) : Ann := r0 1 [0, 3, 4, 5, 6, 7, 8, 13, 14, 17, 18, 19, 20] [3, 4] (cn (decide (((i2 : Nat) : Int) < ((x0.length : Nat) : Int))) (.reg 2 [] [(1003, k211 (x0.getD i2 default) x1 ((i1 : Nat) : Int))] [0, 3, 4, 5, 6, 7, 8, 9, 10, 13, 14, 17, 18, 19, 27] [3, 4, 10] [] [pf (0 ≤ (((i2 : Nat) : Int) : Int) ∧ (((i2 : Nat) : Int) : Int) < ((x0.length : Nat) : Int))] [] [0, 4] (cn (l4Fits (x0.getD i2 default) x1 ((i1 : Nat) : Int)) (.reg 1 [] [(3, k212 (x0.getD i2 default) x1 ((i1 : Nat) : Int))] [0, 3, 4, 5, 6, 7, 8, 13, 14, 17, 18, 19] [3, 4, 1031] [] [] [] [0] (rt [(0, some 1031)] (C160 ((l4Replace (x0.getD i2 default) x1 ((i1 : Nat) : Int)), ((i2 : Nat) : Int), ((i1 : Nat) : Int), true)))) (r1 1 [0, 3, 4, 5, 6, 7, 8, 13, 14, 17, 18, 19] [3, 4] [pf (inR .i64 (((i2 : Nat) : Int) + 1))] [0] (.next 0 [] (D160b2 x0 x1 i1 v1 (i2 + 1) ()))))) (r1 1 [0, 3, 4, 5, 6, 7, 13, 14] [3, 4] [pf (inR .i64 (((i1 : Nat) : Int) + 1))] [0] (.next 1 [] (D160b1 x0 x1 (i1 + 1) ()))))
def A160b1 (x0 : List Rule) (x1 : KinType) (i1 : Nat) (v1 : Unit) : Ann := r0 1 [0, 3, 4, 5, 6, 7, 13, 14, 15] [3, 4] (cn (decide (((i1 : Nat) : Int) < ((x1.steps.length : Nat) : Int))) (r0 2 [0, 3, 4, 5, 6, 7, 8, 13, 14, 17, 18, 19] [3, 4] (lp (D160b2 x0 x1 i1 v1) [] [] [] (D160b2 x0 x1 i1 v1 0 ()) (A160b2 x0 x1 i1 v1))) (r0 1 [4, 5, 6, 7] [4] (rt [(0, none)] (C160 ((KinType.mk 0 ([] : List Step)), 0, 0, false)))))
def A160 (x0 : List Rule) (x1 : KinType) : Ann := r0 1 [0, 3, 4, 5, 6, 7] [3, 4] (r0 1 [0, 3, 4, 5, 6, 7, 13, 14] [3, 4] (lp (D160b1 x0 x1) [] [] [] (D160b1 x0 x1 0 ()) (A160b1 x0 x1)))
theorem ok_spec_l4Step (x0 : List Rule) (x1 : KinType) (hx : x0.length ≤ 1048576) (hr : ∀ r ∈ x0, r.name.length ≤ 1048576 ∧ r.from0.length ≤ 1048576 ∧ r.to.length ≤ 1048576) (ht : x1.steps.length ≤ 1048576) : FnT Try.prog 160 [.ro false 5 x0.length (rowOf (cRule false) x0), .agg (cKinType false x1)] (C160 (l4Step x0 x1)) := by
  have aux : ∀ R, l4Step x0 x1 = R → slim (C160 R) (A160 x0 x1) [] := by
    intro R hR
    refine rg trivial ?_
    refine rg trivial ?_
    revert hR; refine lN (fun i v => True) (by trivial) rfl fun i1 v1 F1 hn1 hI1 hR hK1 => ?_
    refine rg trivial ?_
    refine ⟨fun hc1 => ?_, fun hc1 => ?_⟩
    · have hii1 : i1 < x1.steps.length := by have := of_decide_eq_true hc1; omega
      replace hR := loopN_step hR hii1
      refine rg trivial ?_
      revert hR; refine lN (fun i v => True) (by trivial) rfl fun i2 v2 F2 hn2 hI2 hR hK2 => ?_
      refine rg trivial ?_
      refine ⟨fun hc2 => ?_, fun hc2 => ?_⟩
      · have hii2 : i2 < x0.length := by have := of_decide_eq_true hc2; omega
        replace hR := loopN_step hR hii2
        refine rg ⟨by (intros; omega), ⟨by (exact hr _ (getD_mem (d := default) hii2)), by trivial⟩, trivial⟩ ?_
        revert hR; refine cd (fun hc3 hR => ?_) fun hc3 hR => ?_
        ·
          refine rg ⟨⟨by (exact hr _ (getD_mem (d := default) hii2)), by trivial, by (have h9 := (l4fits_iff _ _ _).1 hc3; omega)⟩, trivial⟩ ?_
          exact congrArg C160 hR
        ·
          refine rg ⟨by ( intros; simp only [inR]; omega), trivial⟩ ?_
          exact hK2 () hii2 (by trivial) hR
      · obtain rfl : i2 = x0.length := by have := of_decide_eq_false hc2; omega
        replace hR := loopN_end hR (Nat.lt_irrefl _)
        refine rg ⟨by ( intros; simp only [inR]; omega), trivial⟩ ?_
        exact hK1 () hii1 (by trivial) hR
    · obtain rfl : i1 = x1.steps.length := by have := of_decide_eq_false hc1; omega
      replace hR := loopN_end hR (Nat.lt_irrefl _)
      refine rg trivial ?_
      exact congrArg C160 hR
  exact Fn.go 37 Try.func160 (by kernel_rfl) (by kernel_rfl) (by simp [C160, Frs, FrsL, FrsB, rowOf, cInt, cBool, cStr, cSl, FrsL_app, cPerson, cUnion, cFamily, cStep, cKinType, cRule]) (A160 x0 x1) (by kernel_rfl) (aux _ rfl)
def k160 (x0 : List Rule) (x1 : KinType) : Cl := (hres (C160 (l4Step x0 x1)), k3 (ok_spec_l4Step x0 x1))
end Go.Proofs.Ytanfabaedopeiaa
