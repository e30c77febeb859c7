import Derived.Test.YtfbkeokpiihkaaaM131
set_option maxHeartbeats 4000000
set_option linter.unusedSimpArgs false
set_option linter.unusedVariables false
namespace Go.Proofs.Ytfbkeokpiihkaaa
open Go Go.Lite Go.Proofs
def C54 (R : (List Int)) : LV × List (Nat × BC) := (.own 0, [(0, .arr 1 R.length (rowOf (cInt .i64) R))])
def implSucc (x0 : Family) (x1 : Custom) (x2 : Int) (x3 : Int) : (List Int) := loopW (fun (v1 : Int × (List Int) × (KV → Option Bool) × (KV → Option Bool)) next => bif (decide (0 ≤ v1.1)) then (next (wayUp x0 x1 v1.1, (below (heirList.mk ((newHeirs x0 x1 x3).f) ((newHeirs x0 x1 x3).custom) ((newHeirs x0 x1 x3).year) v1.2.1 v1.2.2.1 v1.2.2.2) v1.1).1, (below (heirList.mk ((newHeirs x0 x1 x3).f) ((newHeirs x0 x1 x3).custom) ((newHeirs x0 x1 x3).year) v1.2.1 v1.2.2.1 v1.2.2.2) v1.1).2.1, (below (heirList.mk ((newHeirs x0 x1 x3).f) ((newHeirs x0 x1 x3).custom) ((newHeirs x0 x1 x3).year) v1.2.1 v1.2.2.1 v1.2.2.2) v1.1).2.2)) else v1.2.1) ((x2 + 1).toNat + 1) (x2, (newHeirs x0 x1 x3).list, mset ((newHeirs x0 x1 x3).listed) (KV.i x2) true, (newHeirs x0 x1 x3).gone)
def D54b1 (x0 : Family) (x1 : Custom) (x2 : Int) (x3 : Int) (v1 : Int × (List Int) × (KV → Option Bool) × (KV → Option Bool)) : Dl := ⟨[(10, .int .i64 v1.1)], [(131406, .arr 1 v1.2.1.length (rowOf (cInt .i64) v1.2.1)), (131407, .mp (.int .i64) (.b v1.2.2.1)), (131408, .mp (.int .i64) (.b v1.2.2.2)), (1014, .var [.ro false 6 ((((newHeirs x0 x1 x3).f).people).length) (rowOf (cPerson false) (((newHeirs x0 x1 x3).f).people)), .ro false 4 ((((newHeirs x0 x1 x3).f).unions).length) (rowOf (cUnion false) (((newHeirs x0 x1 x3).f).unions)), .int .i64 (((newHeirs x0 x1 x3).custom).prefer), .bool (((newHeirs x0 x1 x3).custom).youngest), .bool (((newHeirs x0 x1 x3).custom).represent), .int .i64 ((newHeirs x0 x1 x3).year), .own 131406, .mp 131407, .mp 131408])]⟩
def A54b1 (x0 : Family) (x1 : Custom) (x2 : Int) (x3 : Int) (v1 : Int × (List Int) × (KV → Option Bool) × (KV → Option Bool)) : Ann := r0 1 [4, 5, 8, 9, 10, 22] [4, 5, 1014, 131406, 131407, 131408] (cn (decide (0 ≤ v1.1)) (.reg 1 [] [(2, k52 29 [1014, 131406, 131407, 131408] (heirList.mk ((newHeirs x0 x1 x3).f) ((newHeirs x0 x1 x3).custom) ((newHeirs x0 x1 x3).year) v1.2.1 v1.2.2.1 v1.2.2.2) v1.1)] [4, 5, 8, 9, 10] [4, 5, 1014, 1029, 131407, 131408] [] [] [] [0] (.reg 1 [] [(3, k84 x0 x1 v1.1)] [4, 5, 8, 9, 10] [4, 5, 1014, 1029, 131407, 131408] [] [] [] [0] (.next 0 [(131406, some 1029), (131407, some 131407), (131408, some 131408)] (D54b1 x0 x1 x2 x3 (wayUp x0 x1 v1.1, (below (heirList.mk ((newHeirs x0 x1 x3).f) ((newHeirs x0 x1 x3).custom) ((newHeirs x0 x1 x3).year) v1.2.1 v1.2.2.1 v1.2.2.2) v1.1).1, (below (heirList.mk ((newHeirs x0 x1 x3).f) ((newHeirs x0 x1 x3).custom) ((newHeirs x0 x1 x3).year) v1.2.1 v1.2.2.1 v1.2.2.2) v1.1).2.1, (below (heirList.mk ((newHeirs x0 x1 x3).f) ((newHeirs x0 x1 x3).custom) ((newHeirs x0 x1 x3).year) v1.2.1 v1.2.2.1 v1.2.2.2) v1.1).2.2))))) (r0 1 [8] [131406] (rt [(0, some 131406)] (C54 v1.2.1))))
def A54 (x0 : Family) (x1 : Custom) (x2 : Int) (x3 : Int) : Ann := r0 1 [2, 3, 4, 5, 8] [4, 5] (.reg 1 [] [(3, k51 14 [] x0 x1 x3)] [2, 4, 5, 8, 9] [4, 5, 1014, 2014, 3014, 4014] [] [] [] [0] (r0 1 [2, 4, 5, 8, 9] [4, 5, 1014, 2014, 3014, 4014] (r0 1 [4, 5, 8, 9, 10] [4, 5, 1014, 2014, 3014, 4014] (.loop (Int × (List Int) × (KV → Option Bool) × (KV → Option Bool)) (D54b1 x0 x1 x2 x3) [] [2014, 3014, 4014] [(131406, some 2014), (131407, some 3014), (131408, some 4014)] (D54b1 x0 x1 x2 x3 (x2, (newHeirs x0 x1 x3).list, mset ((newHeirs x0 x1 x3).listed) (KV.i x2) true, (newHeirs x0 x1 x3).gone)) (A54b1 x0 x1 x2 x3)))))
theorem ok_impl_successionOrder (x0 : Family) (x1 : Custom) (x2 : Int) (x3 : Int) (hf : specIsFamily x0 = true) (hp : 0 ≤ x2 ∧ x2 < x0.people.length) : FnT Try.prog 54 [.agg (cFamily false x0), .agg (cCustom false x1), .int .i64 x2, .int .i64 x3] (C54 (implSucc x0 x1 x2 x3)) := by
  have aux : ∀ R, implSucc x0 x1 x2 x3 = R → slim (C54 R) (A54 x0 x1 x2 x3) [] := by
    intro R hR
    refine rg trivial ?_
    refine rg ⟨trivial, trivial⟩ ?_
    refine rg trivial ?_
    refine rg trivial ?_
    revert hR; refine lW (fun v => (-1 ≤ v.1 ∧ v.1 < x0.people.length) ∧ HOk x0 v.2.1 (mk2 v.2.2.1)) (fun v => (v.1 + 1).toNat) (by (dsimp only [newHeirs]; with_reducible exact ⟨by omega, HOk.nil _ _⟩)) (Nat.lt_succ_self _) rfl fun m1 v1 F1 hI1 hM1 hR hK1 => ?_
    refine rg trivial ?_
    revert hR; refine cd (fun hc1 hR => ?_) fun hc1 hR => ?_
    ·
      refine rg ⟨⟨by (dsimp only [newHeirs]; with_reducible exact hf), by (have h8 := of_decide_eq_true hc1; dsimp only [newHeirs]; with_reducible exact ⟨h8, hI1.1.2⟩), by (dsimp only [newHeirs]; with_reducible exact hI1.2)⟩, trivial⟩ ?_
      refine rg ⟨⟨by (have h9 := fam_n hf; omega), by (have h8 := of_decide_eq_true hc1; with_reducible exact ⟨h8, hI1.1.2⟩)⟩, trivial⟩ ?_
      exact hK1 (wayUp x0 x1 v1.1, (below (heirList.mk ((newHeirs x0 x1 x3).f) ((newHeirs x0 x1 x3).custom) ((newHeirs x0 x1 x3).year) v1.2.1 v1.2.2.1 v1.2.2.2) v1.1).1, (below (heirList.mk ((newHeirs x0 x1 x3).f) ((newHeirs x0 x1 x3).custom) ((newHeirs x0 x1 x3).year) v1.2.1 v1.2.2.1 v1.2.2.2) v1.1).2.1, (below (heirList.mk ((newHeirs x0 x1 x3).f) ((newHeirs x0 x1 x3).custom) ((newHeirs x0 x1 x3).year) v1.2.1 v1.2.2.1 v1.2.2.2) v1.1).2.2) (by (have h8 := of_decide_eq_true hc1; have h9 := fam_n hf; have h7 := way_lt hf x1 ⟨h8, hI1.1.2⟩; have h6 := way_ge hf x1 ⟨h8, hI1.1.2⟩; dsimp only [newHeirs, below]; with_reducible exact ⟨by omega, (below_hok 100 (heirList.mk x0 x1 x3 v1.2.1 v1.2.2.1 v1.2.2.2) v1.1 hf ⟨h8, hI1.1.2⟩ (by dsimp only; omega) hI1.2).1⟩)) (by (have h8 := of_decide_eq_true hc1; have h7 := way_lt hf x1 ⟨h8, hI1.1.2⟩; dsimp only; omega)) hR
    ·
      refine rg trivial ?_
      exact congrArg C54 hR
  exact Fn.go 34 Try.func54 (by kernel_rfl) (by kernel_rfl) (by simp [C54, Frs, FrsL, FrsB, rowOf, cInt, cBool, cStr, cSl, FrsL_app, cPerson, cUnion, cFamily, cCustom]) (A54 x0 x1 x2 x3) (by kernel_rfl) (aux _ rfl)
def k54 (x0 : Family) (x1 : Custom) (x2 : Int) (x3 : Int) : Cl := (hres (C54 (implSucc x0 x1 x2 x3)), k2 (ok_impl_successionOrder x0 x1 x2 x3))
def C26 (R : (List Int)) : LV × List (Nat × BC) := (.own 0, [(0, .arr 1 R.length (rowOf (cInt .i64) R))])
def specSuccO (x0 : Family) (x1 : Custom) (x2 : Int) (x3 : Int) : (List Int) := bif ((!(specIsCustom x1)) || (!(l1Has x0 x2))) then ([] : List Int) else (loopW (fun (v1 : (List Bool) × (List Int) × Int) next => bif (decide (0 ≤ v1.2.2)) then (next ((l10Below x0 x1 v1.2.2 x3 v1.1 v1.2.1).2, (l10Below x0 x1 v1.2.2 x3 v1.1 v1.2.1).1, l10Next x0 x1 v1.2.2)) else v1.2.1) ((x2 + 1).toNat + 1) (((List.replicate x0.people.length (default : Bool)).set x2.toNat true), ([] : List Int), x2))
def D26b1 (x0 : Family) (x1 : Custom) (x2 : Int) (x3 : Int) (v1 : (List Bool) × (List Int) × Int) : Dl := ⟨[(9, .own 20009), (10, .own 20010), (11, .int .i64 v1.2.2)], [(20009, .arr 1 v1.1.length (rowOf (cBool) v1.1)), (20010, .arr 1 v1.2.1.length (rowOf (cInt .i64) v1.2.1))]⟩
def A26b1 (x0 : Family) (x1 : Custom) (x2 : Int) (x3 : Int) (v1 : (List Bool) × (List Int) × Int) : Ann := r0 1 [3, 4, 5, 8, 9, 10, 11, 31] [4, 5, 20009, 20010] (cn (decide (0 ≤ v1.2.2)) (.reg 1 [] [(6, k49 42 [20009, 20010] x0 x1 v1.2.2 x3 v1.1 v1.2.1)] [3, 4, 5, 8, 9, 10, 11] [4, 5, 1042, 20009] [] [] [] [0] (.reg 1 [] [(3, k53 x0 x1 v1.2.2)] [3, 4, 5, 8, 9, 10, 11] [4, 5, 1042, 20009] [] [] [] [0] (.next 0 [(20009, some 20009), (20010, some 1042)] (D26b1 x0 x1 x2 x3 ((l10Below x0 x1 v1.2.2 x3 v1.1 v1.2.1).2, (l10Below x0 x1 v1.2.2 x3 v1.1 v1.2.1).1, l10Next x0 x1 v1.2.2))))) (r0 1 [8] [20010] (rt [(0, some 20010)] (C26 v1.2.1))))
def A26 (x0 : Family) (x1 : Custom) (x2 : Int) (x3 : Int) : Ann := r0 1 [2, 3, 4, 5, 8] [4, 5] (.reg 1 [] [(1, k48 x1), (6, cg (!(!(specIsCustom x1))) (k38 x0 x2))] [2, 3, 4, 5, 8, 20] [4, 5] [!(!(specIsCustom x1)), !(specIsCustom x1)] [] [] [0, 1, 1, 4, 1, 6] (cn ((!(specIsCustom x1)) || (!(l1Has x0 x2))) (r0 1 [2, 3, 4, 5, 8] [4, 5] (rt [(0, none)] (C26 ([] : List Int)))) (.reg 3 [] [(3, msC 24 (cBool) 1 ((x0.people.length : Nat) : Int) ((x0.people.length : Nat) : Int) x0.people.length (default : Bool) (rfl)), (1003, stC 24 (cBool) x0.people.length (List.replicate x0.people.length (default : Bool)) x2.toNat true), (2000, bsC 28 (cInt .i64) ([] : List Int))] [2, 3, 4, 5, 8, 9, 10] [4, 5, 24, 28] [] [pf (0 ≤ (x2 : Int) ∧ (x2 : Int) < ((x0.people.length : Nat) : Int))] [] [4, 0, 8, 12] (r0 1 [3, 4, 5, 8, 9, 10, 11] [4, 5, 24, 28] (.co false 24 (((List.replicate x0.people.length (default : Bool)).set x2.toNat true).length) (rowOf (cBool) ((List.replicate x0.people.length (default : Bool)).set x2.toNat true)) [lnP (rowOf (cBool) ((List.replicate x0.people.length (default : Bool)).set x2.toNat true)) x0.people.length (((List.replicate x0.people.length (default : Bool)).set x2.toNat true).length)] [] 0 (.loop ((List Bool) × (List Int) × Int) (D26b1 x0 x1 x2 x3) [] [24, 28] [(20009, some 24), (20010, some 28)] (D26b1 x0 x1 x2 x3 (((List.replicate x0.people.length (default : Bool)).set x2.toNat true), ([] : List Int), x2)) (A26b1 x0 x1 x2 x3)))))))
theorem ok_spec_SuccessionOrder (x0 : Family) (x1 : Custom) (x2 : Int) (x3 : Int) (hx : x0.people.length ≤ 1048576) (hu : x0.unions.length ≤ 1048576) (hn : ∀ p ∈ x0.people, p.name.length ≤ 1048576) : FnT Try.prog 26 [.agg (cFamily false x0), .agg (cCustom false x1), .int .i64 x2, .int .i64 x3] (C26 (specSuccO x0 x1 x2 x3)) := by
  have aux : ∀ R, specSuccO x0 x1 x2 x3 = R → slim (C26 R) (A26 x0 x1 x2 x3) [] := by
    intro R hR
    refine rg trivial ?_
    refine rg ⟨trivial, fun hg0 => ⟨by with_reducible assumption, by with_reducible assumption, by with_reducible assumption⟩, trivial⟩ ?_
    revert hR; refine cd (fun hc1 hR => ?_) fun hc1 hR => ?_
    ·
      refine rg trivial ?_
      exact congrArg C26 hR
    ·
      refine rg ⟨by (have h9 := ord_pre hc1; omega), by (intros; omega), by (have h9 := ord_pre hc1; simp only [List.length_replicate]; omega), trivial, trivial⟩ ?_
      refine rg trivial ?_
      refine og (by (simp; done)) ?_
      revert hR; refine lW (fun v => (-1 ≤ v.2.2 ∧ v.2.2 < x0.people.length) ∧ v.1.length = x0.people.length ∧ HOk x0 v.2.1 (mk1 v.1)) (fun v => (v.2.2 + 1).toNat) (by (have h9 := ord_pre hc1; dsimp only; with_reducible exact ⟨by omega, by simp only [List.length_set, List.length_replicate], HOk.nil _ _⟩)) (Nat.lt_succ_self _) rfl fun m1 v1 F1 hI1 hM1 hR hK1 => ?_
      refine rg trivial ?_
      revert hR; refine cd (fun hc2 hR => ?_) fun hc2 hR => ?_
      ·
        refine rg ⟨⟨by (have h9 := ord_pre hc1; with_reducible exact h9.1.1), by (have h8 := of_decide_eq_true hc2; with_reducible exact ⟨h8, hI1.1.2⟩), by (with_reducible exact hI1.2.2), by (intros; omega)⟩, trivial⟩ ?_
        refine rg ⟨⟨by with_reducible assumption, by (have h8 := of_decide_eq_true hc2; with_reducible exact ⟨h8, hI1.1.2⟩)⟩, trivial⟩ ?_
        exact hK1 ((l10Below x0 x1 v1.2.2 x3 v1.1 v1.2.1).2, (l10Below x0 x1 v1.2.2 x3 v1.1 v1.2.1).1, l10Next x0 x1 v1.2.2) (by (have h9 := ord_pre hc1; have h8 := of_decide_eq_true hc2; have h7 := way_lt h9.1.1 x1 ⟨h8, hI1.1.2⟩; have h6 := way_ge h9.1.1 x1 ⟨h8, hI1.1.2⟩; have h5 := l10Below_hok 100 x0 x1 v1.2.2 x3 v1.1 v1.2.1 h9.1.1 ⟨h8, hI1.1.2⟩ (by omega) hI1.2.1 hI1.2.2; dsimp only [l10Below]; with_reducible exact ⟨by (rw [next_way]; omega), h5.1.trans hI1.2.1, h5.2.1⟩)) (by (have h9 := ord_pre hc1; have h8 := of_decide_eq_true hc2; have h7 := way_lt h9.1.1 x1 ⟨h8, hI1.1.2⟩; dsimp only; rw [next_way]; omega)) hR
      ·
        refine rg trivial ?_
        exact congrArg C26 hR
  exact Fn.go 44 Try.func26 (by kernel_rfl) (by kernel_rfl) (by simp [C26, Frs, FrsL, FrsB, rowOf, cInt, cBool, cStr, cSl, FrsL_app, cPerson, cUnion, cFamily, cCustom]) (A26 x0 x1 x2 x3) (by kernel_rfl) (aux _ rfl)
def k26 (x0 : Family) (x1 : Custom) (x2 : Int) (x3 : Int) : Cl := (hres (C26 (specSuccO x0 x1 x2 x3)), k3 (ok_spec_SuccessionOrder x0 x1 x2 x3))
end Go.Proofs.Ytfbkeokpiihkaaa
