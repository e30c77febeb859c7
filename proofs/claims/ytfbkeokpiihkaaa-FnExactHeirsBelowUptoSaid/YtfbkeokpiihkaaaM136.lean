import Derived.Test.YtfbkeokpiihkaaaVS21
set_option maxHeartbeats 4000000
set_option linter.unusedSimpArgs false
set_option linter.unusedVariables false
namespace Go.Proofs.Ytfbkeokpiihkaaa
open Go Go.Lite Go.Proofs
theorem mk1_rep (n : Nat) (c : Int) : mk1 (List.replicate n (default : Bool)) c = false := by
  unfold mk1
  rw [getD_rep]
  split <;> rfl
def C22 (R : (List Int)) : LV × List (Nat × BC) := (.own 0, [(0, .arr 1 R.length (rowOf (cInt .i64) R))])
def implHeirs (x0 : Family) (x1 : Custom) (x2 : Int) (x3 : Int) : (List Int) := bif ((!(implHas x0 [x2])) || (!(implIsCustom x1))) then ([] : List Int) else (jn (fun K1 => K1 ((below (heirList.mk ((newHeirs x0 x1 x3).f) ((newHeirs x0 x1 x3).custom) ((newHeirs x0 x1 x3).year) ((newHeirs x0 x1 x3).list) ((newHeirs x0 x1 x3).listed) ((newHeirs x0 x1 x3).gone)) x2).1, (below (heirList.mk ((newHeirs x0 x1 x3).f) ((newHeirs x0 x1 x3).custom) ((newHeirs x0 x1 x3).year) ((newHeirs x0 x1 x3).list) ((newHeirs x0 x1 x3).listed) ((newHeirs x0 x1 x3).gone)) x2).2.1, (below (heirList.mk ((newHeirs x0 x1 x3).f) ((newHeirs x0 x1 x3).custom) ((newHeirs x0 x1 x3).year) ((newHeirs x0 x1 x3).list) ((newHeirs x0 x1 x3).listed) ((newHeirs x0 x1 x3).gone)) x2).2.2)) (fun (j1 : (List Int) × (KV → Option Bool) × (KV → Option Bool)) => j1.1))
def D22j1 (x0 : Family) (x1 : Custom) (x2 : Int) (x3 : Int) (j1 : (List Int) × (KV → Option Bool) × (KV → Option Bool)) : Dl := ⟨[], [(132306, .arr 1 j1.1.length (rowOf (cInt .i64) j1.1)), (132307, .mp (.int .i64) (.b j1.2.1)), (132308, .mp (.int .i64) (.b j1.2.2)), (1023, .var [.ro false 6 ((((newHeirs x0 x1 x3).f).people).length) (rowOf (cPerson false) (((newHeirs x0 x1 x3).f).people)), .ro false 4 ((((newHeirs x0 x1 x3).f).unions).length) (rowOf (cUnion false) (((newHeirs x0 x1 x3).f).unions)), .int .i64 (((newHeirs x0 x1 x3).custom).prefer), .bool (((newHeirs x0 x1 x3).custom).youngest), .bool (((newHeirs x0 x1 x3).custom).represent), .int .i64 ((newHeirs x0 x1 x3).year), .own 132306, .mp 132307, .mp 132308])]⟩
def A22j1 (x0 : Family) (x1 : Custom) (x2 : Int) (x3 : Int) (j1 : (List Int) × (KV → Option Bool) × (KV → Option Bool)) : Ann := r0 1 [8] [132306] (rt [(0, some 132306)] (C22 j1.1))
def A22 (x0 : Family) (x1 : Custom) (x2 : Int) (x3 : Int) : Ann := r0 1 [2, 3, 4, 5, 8] [4, 5] (.reg 1 [] [(2, bsC 12 (cInt .i64) ([x2] : List Int)), (3, k42 x0 [x2]), (7, cg (!(!(implHas x0 [x2]))) (k50 x1))] [2, 3, 4, 5, 8, 19] [4, 5] [!(!(implHas x0 [x2])), !(implHas x0 [x2])] [] [] [0, 4, 1, 8, 1, 6] (cn ((!(implHas x0 [x2])) || (!(implIsCustom x1))) (r0 1 [2, 3, 4, 5, 8] [4, 5] (rt [(0, none)] (C22 ([] : List Int)))) (.reg 1 [] [(3, k51 23 [] x0 x1 x3)] [2, 8, 9] [1023, 2023, 3023, 4023] [] [] [] [0] (.join 0 ((List Int) × (KV → Option Bool) × (KV → Option Bool)) (D22j1 x0 x1 x2 x3) [8, 9] [1023] (.reg 1 [] [(2, k52 26 [1023, 2023, 3023, 4023] (heirList.mk ((newHeirs x0 x1 x3).f) ((newHeirs x0 x1 x3).custom) ((newHeirs x0 x1 x3).year) ((newHeirs x0 x1 x3).list) ((newHeirs x0 x1 x3).listed) ((newHeirs x0 x1 x3).gone)) x2)] [8, 9] [1023, 1026, 3023, 4023] [] [] [] [0] (.next 0 [(132306, some 1026), (132307, some 3023), (132308, some 4023)] (D22j1 x0 x1 x2 x3 ((below (heirList.mk ((newHeirs x0 x1 x3).f) ((newHeirs x0 x1 x3).custom) ((newHeirs x0 x1 x3).year) ((newHeirs x0 x1 x3).list) ((newHeirs x0 x1 x3).listed) ((newHeirs x0 x1 x3).gone)) x2).1, (below (heirList.mk ((newHeirs x0 x1 x3).f) ((newHeirs x0 x1 x3).custom) ((newHeirs x0 x1 x3).year) ((newHeirs x0 x1 x3).list) ((newHeirs x0 x1 x3).listed) ((newHeirs x0 x1 x3).gone)) x2).2.1, (below (heirList.mk ((newHeirs x0 x1 x3).f) ((newHeirs x0 x1 x3).custom) ((newHeirs x0 x1 x3).year) ((newHeirs x0 x1 x3).list) ((newHeirs x0 x1 x3).listed) ((newHeirs x0 x1 x3).gone)) x2).2.2)))) (A22j1 x0 x1 x2 x3)))))
theorem ok_impl_HeirsBelow (x0 : Family) (x1 : Custom) (x2 : Int) (x3 : Int) (hx : x0.people.length ≤ 1048576) (hu : x0.unions.length ≤ 1048576) (hn : ∀ p ∈ x0.people, p.name.length ≤ 1048576) : FnT Try.prog 22 [.agg (cFamily false x0), .agg (cCustom false x1), .int .i64 x2, .int .i64 x3] (C22 (implHeirs x0 x1 x2 x3)) := by
  have aux : ∀ R, implHeirs x0 x1 x2 x3 = R → slim (C22 R) (A22 x0 x1 x2 x3) [] := by
    intro R hR
    refine rg trivial ?_
    refine rg ⟨trivial, ⟨by with_reducible assumption, by with_reducible assumption, by with_reducible assumption, by ((simp only [List.length_singleton]; omega))⟩, fun hg0 => trivial, trivial⟩ ?_
    revert hR; refine cd (fun hc1 hR => ?_) fun hc1 hR => ?_
    ·
      refine rg trivial ?_
      exact congrArg C22 hR
    ·
      refine rg ⟨trivial, trivial⟩ ?_
      revert hR; refine jN (fun v => True) (fun F101 hR hJ101 => ?_) (fun j1 hR hJ1 => ?_)
      ·
        refine rg ⟨⟨by (have h9 := ord_pre2 hc1; dsimp only [newHeirs]; with_reducible exact h9.1.1), by (have h9 := ord_pre2 hc1; dsimp only [newHeirs]; with_reducible exact h9.2), by (dsimp only [newHeirs]; with_reducible exact HOk.nil _ _)⟩, trivial⟩ ?_
        exact hJ101 ((below (heirList.mk ((newHeirs x0 x1 x3).f) ((newHeirs x0 x1 x3).custom) ((newHeirs x0 x1 x3).year) ((newHeirs x0 x1 x3).list) ((newHeirs x0 x1 x3).listed) ((newHeirs x0 x1 x3).gone)) x2).1, (below (heirList.mk ((newHeirs x0 x1 x3).f) ((newHeirs x0 x1 x3).custom) ((newHeirs x0 x1 x3).year) ((newHeirs x0 x1 x3).list) ((newHeirs x0 x1 x3).listed) ((newHeirs x0 x1 x3).gone)) x2).2.1, (below (heirList.mk ((newHeirs x0 x1 x3).f) ((newHeirs x0 x1 x3).custom) ((newHeirs x0 x1 x3).year) ((newHeirs x0 x1 x3).list) ((newHeirs x0 x1 x3).listed) ((newHeirs x0 x1 x3).gone)) x2).2.2) hR (by exact True.intro)
      ·
        refine rg trivial ?_
        exact congrArg C22 hR
  exact Fn.go 31 Try.func22 (by kernel_rfl) (by kernel_rfl) (by simp [C22, Frs, FrsL, FrsB, rowOf, cInt, cBool, cStr, cSl, FrsL_app, cPerson, cUnion, cFamily, cCustom]) (A22 x0 x1 x2 x3) (by kernel_rfl) (aux _ rfl)
def k22 (x0 : Family) (x1 : Custom) (x2 : Int) (x3 : Int) : Cl := (hres (C22 (implHeirs x0 x1 x2 x3)), k3 (ok_impl_HeirsBelow x0 x1 x2 x3))
def k49n (d : Nat) (ids : List Nat) (x0 : Family) (x1 : Custom) (x2 : Int) (x3 : Int) (x4 : List Bool) : Cl := (hresM d ids (C49 x0 x1 x2 x3 x4 ([] : List Int) (l10Below x0 x1 x2 x3 x4 ([] : List Int))), k4 (P := FnMT Try.prog 49 [.agg (cFamily false x0), .agg (cCustom false x1), .int .i64 x2, .int .i64 x3, .own 900000, .nilS] [.arr 1 x4.length (rowOf (cBool) x4)] (C49 x0 x1 x2 x3 x4 ([] : List Int) (l10Below x0 x1 x2 x3 x4 ([] : List Int)))) fun h0 h1 h2 h3 => FnM.nil (args := [.agg (cFamily false x0), .agg (cCustom false x1), .int .i64 x2, .int .i64 x3, .own 900000, .own 900001]) (bl := [.arr 1 x4.length (rowOf (cBool) x4)]) (sz := 1) (row := (rowOf (cInt .i64) ([] : List Int))) 5 (by kernel_rfl) (by kernel_rfl) (ok_spec_l10Below x0 x1 x2 x3 x4 ([] : List Int) h0 h1 h2 h3))
def C21 (R : (List Int)) : LV × List (Nat × BC) := (.own 0, [(0, .arr 1 R.length (rowOf (cInt .i64) R))])
def specHeirs (x0 : Family) (x1 : Custom) (x2 : Int) (x3 : Int) : (List Int) := bif ((!(specIsCustom x1)) || (!(l1Has x0 x2))) then ([] : List Int) else ((l10Below x0 x1 x2 x3 (List.replicate x0.people.length (default : Bool)) ([] : List Int)).1)
def A21 (x0 : Family) (x1 : Custom) (x2 : Int) (x3 : Int) : Ann := r0 1 [2, 3, 4, 5, 8] [4, 5] (.reg 1 [] [(1, k48 x1), (6, cg (!(!(specIsCustom x1))) (k38 x0 x2))] [2, 3, 4, 5, 8, 17] [4, 5] [!(!(specIsCustom x1)), !(specIsCustom x1)] [] [] [0, 1, 1, 4, 1, 6] (cn ((!(specIsCustom x1)) || (!(l1Has x0 x2))) (r0 1 [2, 3, 4, 5, 8] [4, 5] (rt [(0, none)] (C21 ([] : List Int)))) (.reg 1 [] [(7, msL 25 (cBool) 1 ((x0.people.length : Nat) : Int) ((x0.people.length : Nat) : Int) x0.people.length (default : Bool) (rfl)), (8, k49n 26 [25] x0 x1 x2 x3 (List.replicate x0.people.length (default : Bool)))] [8] [1026] [] [] [] [0, 4] (rt [(0, some 1026)] (C21 ((l10Below x0 x1 x2 x3 (List.replicate x0.people.length (default : Bool)) ([] : List Int)).1))))))
theorem ok_spec_HeirsBelow (x0 : Family) (x1 : Custom) (x2 : Int) (x3 : Int) (hx : x0.people.length ≤ 1048576) (hu : x0.unions.length ≤ 1048576) (hn : ∀ p ∈ x0.people, p.name.length ≤ 1048576) : FnT Try.prog 21 [.agg (cFamily false x0), .agg (cCustom false x1), .int .i64 x2, .int .i64 x3] (C21 (specHeirs x0 x1 x2 x3)) := by
  have aux : ∀ R, specHeirs x0 x1 x2 x3 = R → slim (C21 R) (A21 x0 x1 x2 x3) [] := by
    intro R hR
    refine rg trivial ?_
    refine rg ⟨trivial, fun hg0 => ⟨by with_reducible assumption, by with_reducible assumption, by with_reducible assumption⟩, trivial⟩ ?_
    revert hR; refine cd (fun hc1 hR => ?_) fun hc1 hR => ?_
    ·
      refine rg trivial ?_
      exact congrArg C21 hR
    ·
      refine rg ⟨by (intros; omega), ⟨by (have h9 := ord_pre hc1; with_reducible exact h9.1.1), by (have h9 := ord_pre hc1; omega), by (with_reducible exact HOk.nil _ _), by (simp only [List.length_replicate]; done)⟩, trivial⟩ ?_
      exact congrArg C21 hR
  exact Fn.go 27 Try.func21 (by kernel_rfl) (by kernel_rfl) (by simp [C21, Frs, FrsL, FrsB, rowOf, cInt, cBool, cStr, cSl, FrsL_app, cPerson, cUnion, cFamily, cCustom]) (A21 x0 x1 x2 x3) (by kernel_rfl) (aux _ rfl)
def k21 (x0 : Family) (x1 : Custom) (x2 : Int) (x3 : Int) : Cl := (hres (C21 (specHeirs x0 x1 x2 x3)), k3 (ok_spec_HeirsBelow x0 x1 x2 x3))
theorem heirs_eq (f : Family) (x : Custom) (p y : Int) : implHeirs f x p y = specHeirs f x p y := by
  unfold implHeirs specHeirs
  have e : ((!(implHas f [p])) || (!(implIsCustom x))) = ((!(specIsCustom x)) || (!(l1Has f p))) := by
    rw [isCustom_eq, has1_eq, Bool.or_comm]
  rw [e]
  cases h : ((!(specIsCustom x)) || (!(l1Has f p))) with
  | true => rfl
  | false =>
    simp only [or_f_iff, not_f_iff, l1Has_iff] at h
    have hn := (fam_n h.2.2).1
    exact (below_same h.2.2 x y 100 p (List.replicate f.people.length (default : Bool)) [] (fun _ => none) (fun _ => none) h.2.1 (by omega) (by simp only [List.length_replicate]) (fun c _ _ => by rw [mk1_rep]; rfl) (fun q h => by cases h)).1
theorem specHeirs_ok (f : Family) (x : Custom) (p y : Int) : (specHeirs f x p y).length ≤ 40 := by
  unfold specHeirs
  refine cond_both (p := fun (r : List Int) => r.length ≤ 40) (fun _ => by simp) (fun h => ?_)
  simp only [or_f_iff, not_f_iff, l1Has_iff] at h
  have hn := (fam_n h.2.2).1
  have := (l10Below_hok 100 f x p y (List.replicate f.people.length (default : Bool)) [] h.2.2 h.2.1 (by omega) (by simp only [List.length_replicate]) (HOk.nil _ _)).2.1.len
  unfold l10Below
  omega
end Go.Proofs.Ytfbkeokpiihkaaa
