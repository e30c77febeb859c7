import Derived.Test.YtaooopgdcneohaaM82
set_option maxHeartbeats 4000000
set_option linter.unusedSimpArgs false
set_option linter.unusedVariables false
namespace Go.Proofs.Ytaooopgdcneohaa
open Go Go.Lite Go.Proofs
def C16 (R : Int) : LV × List (Nat × BC) := (.int .i64 R, [])
def szClasses (x0 : Classes) (x1 : Int) : Int := bif (decide ((szIntS x0.wife x1) < 0)) then (-1) else (bif (decide ((szIntS x0.child (szIntS x0.wife x1)) < 0)) then (-1) else (szIntS x0.child (szIntS x0.wife x1)))
def A16 (x0 : Classes) (x1 : Int) : Ann := .reg 2 [] [(1003, k51 x0.wife x1)] [1, 2, 4] [2] [] [] [] [0] (r0 1 [1, 2, 4, 10] [2] (cn (decide ((szIntS x0.wife x1) < 0)) (r0 1 [1, 2, 4] [2] (rt [] (C16 (-1)))) (.reg 1 [] [(3, k51 x0.child (szIntS x0.wife x1))] [1, 4] [] [] [] [] [0] (r0 1 [1, 4, 16] [] (cn (decide ((szIntS x0.child (szIntS x0.wife x1)) < 0)) (r0 1 [1, 4] [] (rt [] (C16 (-1)))) (r0 1 [4] [] (rt [] (C16 (szIntS x0.child (szIntS x0.wife x1))))))))))
theorem szClasses_rng (x : Classes) (w : Int) : szClasses x w ≤ max w (-1) ∧ -1 ≤ szClasses x w := by
  unfold szClasses
  have h1 := szIntS_rng x.wife w
  have h2 := szIntS_rng x.child (szIntS x.wife w)
  cases decide (szIntS x.wife w < 0)
  · cases decide (szIntS x.child (szIntS x.wife w) < 0)
    · simp only [cond_false]; omega
    · simp only [cond_false, cond_true]; omega
  · simp only [cond_true]; omega
theorem ok_laws_szClasses (x0 : Classes) (x1 : Int) (hx : x0.wife.length ≤ 1048576 ∧ x0.child.length ≤ 1048576) (hw : -1 ≤ x1 ∧ x1 ≤ 1048576) : FnT Try.prog 16 [.agg (cClasses false x0), .int .i64 x1] (C16 (szClasses x0 x1)) := by
  have aux : ∀ R, szClasses x0 x1 = R → slim (C16 R) (A16 x0 x1) [] := by
    intro R hR
    refine rg ⟨⟨by (intros; omega), by trivial⟩, trivial⟩ ?_
    refine rg trivial ?_
    revert hR; refine cd (fun hc1 hR => ?_) fun hc1 hR => ?_
    ·
      refine rg trivial ?_
      exact congrArg C16 hR
    ·
      refine rg ⟨⟨by (intros; omega), by (have h9 := szIntS_rng x0.wife x1; omega)⟩, trivial⟩ ?_
      refine rg trivial ?_
      revert hR; refine cd (fun hc2 hR => ?_) fun hc2 hR => ?_
      ·
        refine rg trivial ?_
        exact congrArg C16 hR
      ·
        refine rg trivial ?_
        exact congrArg C16 hR
  exact Fn.go 18 Try.func16 (by kernel_rfl) (by kernel_rfl) (by simp [C16, Frs, FrsL]) (A16 x0 x1) (by kernel_rfl) (aux _ rfl)
def k16 (x0 : Classes) (x1 : Int) : Cl := (hres (C16 (szClasses x0 x1)), k2 (ok_laws_szClasses x0 x1))
def C19 (R : (List Int)) : LV × List (Nat × BC) := (.own 0, [(0, .arr 1 R.length (rowOf (cInt .i64) R))])
def laws_toIntS_m (x0 : List Int) : (List Int) := loopN (fun i1 (v1 : (List Int)) next => next (v1.set i1 (x0.getD i1 default))) (fun (v1 : (List Int)) => v1) x0.length 0 (List.replicate x0.length (default : Int))
def D19b1 (x0 : List Int) (i1 : Nat) (v1 : (List Int)) : Dl := ⟨[(4, .int .i64 ((i1 : Nat) : Int)), (3, .own 20003)], [(20003, .arr 1 x0.length (rowOf (cInt .i64) v1))]⟩
def A19b1 (x0 : List Int) (i1 : Nat) (v1 : (List Int)) : Ann := r0 1 [0, 2, 3, 4, 11] [20003] (cn (decide (((i1 : Nat) : Int) < ((x0.length : Nat) : Int))) (.reg 1 [] [(7, stC 20003 (cInt .i64) x0.length v1 i1 (x0.getD i1 default))] [0, 2, 3, 4] [20003] [] [pf (0 ≤ (((i1 : Nat) : Int) : Int) ∧ (((i1 : Nat) : Int) : Int) < ((x0.length : Nat) : Int))] [] [0, 0, 4] (r1 1 [0, 2, 3, 4] [20003] [pf (inR .i64 (((i1 : Nat) : Int) + 1))] [0] (.next 0 [(20003, some 20003)] (D19b1 x0 (i1 + 1) (v1.set i1 (x0.getD i1 default)))))) (r0 1 [2] [20003] (.co false 20003 v1.length (rowOf (cInt .i64) v1) [lnP (rowOf (cInt .i64) v1) x0.length v1.length] [] 0 (rt [(0, some 20003)] (C19 v1)))))
def A19 (x0 : List Int) : Ann := .reg 2 [] [(1002, msC 7 (cInt .i64) 8 ((x0.length : Nat) : Int) ((x0.length : Nat) : Int) x0.length (default : Int) (rfl))] [0, 2, 3] [7] [] [] [] [0] (r0 1 [0, 2, 3, 4] [7] (lp (D19b1 x0) [] [7] [(20003, some 7)] (D19b1 x0 0 (List.replicate x0.length (default : Int))) (A19b1 x0)))
theorem toIntS_id (x : List Int) : laws_toIntS_m x = x := loopN_copy x _ _ _ _ (by simp) (by simp) (fun k hk => absurd hk (by omega))
theorem ok_laws_toIntS (x0 : List Int) (hx : x0.length ≤ 1048576) : FnT Try.prog 19 [.ro false 1 x0.length (rowOf (cInt .i64) x0)] (C19 x0) := by
  have aux : ∀ R, laws_toIntS_m x0 = R → slim (C19 R) (A19 x0) [] := by
    intro R hR
    refine rg ⟨by (intros; omega), trivial⟩ ?_
    refine rg trivial ?_
    revert hR; refine lN (fun i v => v.length = x0.length) (by ((try clear hR); intros; (try simp only [decide_eq_true_eq, decide_eq_false_iff_not, Bool.or_eq_true, Bool.and_eq_true, or_f_iff, not_f_iff, not_t_iff, Bool.not_eq_true', inR] at *); (repeat' apply And.intro) <;> (simp_all [inR]; done))) rfl fun i1 v1 F1 hn1 hI1 hR hK1 => ?_
    refine rg trivial ?_
    refine ⟨fun hc1 => ?_, fun hc1 => ?_⟩
    · have hii1 : i1 < x0.length := by have := of_decide_eq_true hc1; omega
      replace hR := loopN_step hR hii1
      refine rg ⟨by (intros; omega), by (intros; omega), trivial⟩ ?_
      refine rg ⟨by ( intros; simp only [inR]; omega), trivial⟩ ?_
      exact hK1 (v1.set i1 (x0.getD i1 default)) hii1 (by (simp only [List.length_set]; omega)) hR
    · obtain rfl : i1 = x0.length := by have := of_decide_eq_false hc1; omega
      replace hR := loopN_end hR (Nat.lt_irrefl _)
      refine rg trivial ?_
      refine og (by (intros; omega)) ?_
      exact congrArg C19 hR
  exact Fn.go 22 Try.func19 (by kernel_rfl) (by kernel_rfl) (by simp [C19, Frs, FrsL, FrsB, rowOf, cInt, cBool, cStr, cSl, FrsL_app, cPerson, cUnion, cFamily, cClasses]) (A19 x0) (by kernel_rfl) (aux _ (toIntS_id x0))
def k19 (x0 : List Int) : Cl := (hres (C19 x0), k1 (ok_laws_toIntS x0))
def C18 (R : Classes) : LV × List (Nat × BC) := (.agg [.own 0, .own 1], [(0, .arr 1 R.wife.length (rowOf (cInt .i64) R.wife)), (1, .arr 1 R.child.length (rowOf (cInt .i64) R.child))])
def laws_toClasses_m (x0 : Classes) : Classes := x0
def A18 (x0 : Classes) : Ann := .reg 5 [] [(2002, k19 x0.wife), (3002, k19 x0.child)] [2] [2, 1006, 1010] [] [] [] [0, 4] (rt [(0, some 1006), (1, some 1010)] (C18 x0))
theorem ok_laws_toClasses (x0 : Classes) (hx : x0.wife.length ≤ 1048576 ∧ x0.child.length ≤ 1048576) : FnT Try.prog 18 [.agg (cClasses false x0)] (C18 x0) := by
  have aux : ∀ R, laws_toClasses_m x0 = R → slim (C18 R) (A18 x0) [] := by
    intro R hR
    refine rg ⟨by (intros; omega), by (intros; omega), trivial⟩ ?_
    exact congrArg C18 hR
  exact Fn.go 13 Try.func18 (by kernel_rfl) (by kernel_rfl) (by simp [C18, Frs, FrsL, FrsB, rowOf, cInt, cBool, cStr, cSl, FrsL_app, cPerson, cUnion, cFamily, cClasses]) (A18 x0) (by kernel_rfl) (aux _ rfl)
def k18 (x0 : Classes) : Cl := (hres (C18 x0), k1 (ok_laws_toClasses x0))
def C22 (R : Bool) : LV × List (Nat × BC) := (.bool R, [])
def eqClasses (x0 : Classes) (x1 : Classes) : Bool := bif (!(eqIntS x0.wife x1.wife)) then false else (bif (!(eqIntS x0.child x1.child)) then false else true)
def A22 (x0 : Classes) (x1 : Classes) : Ann := r0 1 [2, 3, 4] [2, 3] (.reg 1 [] [(4, k21 x0.wife x1.wife)] [2, 3, 4, 10] [2, 3] [] [] [] [0] (cn (!(eqIntS x0.wife x1.wife)) (r0 1 [2, 3, 4] [2, 3] (rt [] (C22 false))) (.reg 1 [] [(4, k21 x0.child x1.child)] [4, 16] [] [] [] [] [0] (cn (!(eqIntS x0.child x1.child)) (r0 1 [4] [] (rt [] (C22 false))) (r0 1 [4] [] (rt [] (C22 true)))))))
theorem eqClasses_self (x : Classes) : eqClasses x x = true := by simp [eqClasses, eqIntS_self]
theorem ok_laws_eqClasses (x0 : Classes) (x1 : Classes) (hx : x0.wife.length ≤ 1048576 ∧ x0.child.length ≤ 1048576) : FnT Try.prog 22 [.agg (cClasses false x0), .agg (cClasses false x1)] (C22 (eqClasses x0 x1)) := by
  have aux : ∀ R, eqClasses x0 x1 = R → slim (C22 R) (A22 x0 x1) [] := by
    intro R hR
    refine rg trivial ?_
    refine rg ⟨by (intros; omega), trivial⟩ ?_
    revert hR; refine cd (fun hc1 hR => ?_) fun hc1 hR => ?_
    ·
      refine rg trivial ?_
      exact congrArg C22 hR
    ·
      refine rg ⟨by (intros; omega), trivial⟩ ?_
      revert hR; refine cd (fun hc2 hR => ?_) fun hc2 hR => ?_
      ·
        refine rg trivial ?_
        exact congrArg C22 hR
      ·
        refine rg trivial ?_
        exact congrArg C22 hR
  exact Fn.go 17 Try.func22 (by kernel_rfl) (by kernel_rfl) (by simp [C22, Frs, FrsL]) (A22 x0 x1) (by kernel_rfl) (aux _ rfl)
def k22 (x0 : Classes) (x1 : Classes) : Cl := (hres (C22 (eqClasses x0 x1)), k1 (ok_laws_eqClasses x0 x1))
def C23 (x0 : Classes) (x1 : Int) (R : Int × Classes) : LV × List (Nat × BC) := (.int .i64 R.1, [(900000, .arr 1 R.2.wife.length (rowOf (cInt .i64) R.2.wife)), (900001, .arr 1 R.2.child.length (rowOf (cInt .i64) R.2.child))])
def markClasses (x0 : Classes) (x1 : Int) : Int × Classes := ((markIntS x0.child ((markIntS x0.wife x1).1)).1, (Classes.mk ((markIntS x0.wife x1).2) ((markIntS x0.child ((markIntS x0.wife x1).1)).2)))
def A23 (x0 : Classes) (x1 : Int) : Ann := .reg 4 [] [(1003, k24 8 [900000] x0.wife x1), (2003, k24 12 [900001] x0.child ((markIntS x0.wife x1).1))] [4] [900000, 900001] [] [] [] [0, 4] (rt [(900000, some 900000), (900001, some 900001)] (C23 x0 x1 ((markIntS x0.child ((markIntS x0.wife x1).1)).1, (Classes.mk ((markIntS x0.wife x1).2) ((markIntS x0.child ((markIntS x0.wife x1).1)).2)))))
theorem ok_laws_markClasses (x0 : Classes) (x1 : Int) (hx : x0.wife.length ≤ 1048576 ∧ x0.child.length ≤ 1048576) (hk : 0 ≤ x1 ∧ x1 ≤ 20000000) : FnMT Try.prog 23 [.agg [.own 900000, .own 900001], .int .i64 x1] [.arr 1 x0.wife.length (rowOf (cInt .i64) x0.wife), .arr 1 x0.child.length (rowOf (cInt .i64) x0.child)] (C23 x0 x1 (markClasses x0 x1)) := by
  have aux : ∀ R, markClasses x0 x1 = R → slim (C23 x0 x1 R) (A23 x0 x1) [] := by
    intro R hR
    refine rg ⟨⟨by (intros; omega), by (intros; omega)⟩, ⟨by (intros; omega), by (have h9 := (markIntS_val x0.wife x1).1; omega)⟩, trivial⟩ ?_
    exact congrArg (C23 x0 x1) hR
  exact FnM.go 14 Try.func23 (by kernel_rfl) (by kernel_rfl) (A23 x0 x1) (by kernel_rfl) (aux _ rfl)
def k23 (d : Nat) (ids : List Nat) (x0 : Classes) (x1 : Int) : Cl := (hresM d ids (C23 x0 x1 (markClasses x0 x1)), k2 (ok_laws_markClasses x0 x1))
end Go.Proofs.Ytaooopgdcneohaa
