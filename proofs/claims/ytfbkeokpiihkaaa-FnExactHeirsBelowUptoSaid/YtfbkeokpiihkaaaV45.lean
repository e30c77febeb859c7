import Derived.Test.YtfbkeokpiihkaaaV20
set_option maxHeartbeats 4000000
set_option linter.unusedSimpArgs false
set_option linter.unusedVariables false
namespace Go.Proofs.Ytfbkeokpiihkaaa
open Go Go.Lite Go.Proofs
theorem markIntS_val (l : List Int) (k : Int) : (markIntS l k).1 = k + l.length ∧ (markIntS l k).2.length = l.length ∧ ∀ i : Nat, i < l.length → (markIntS l k).2.getD i default = k + i := by
  unfold markIntS
  refine loopN_to (fun i (v : List Int × Int) => v.1.length = l.length ∧ v.2 = k + i ∧ ∀ j : Nat, j < i → v.1.getD j default = k + j) (fun (r : Int × List Int) => r.1 = k + l.length ∧ r.2.length = l.length ∧ ∀ i : Nat, i < l.length → r.2.getD i default = k + i) ⟨rfl, by simp, fun j hj => absurd hj (Nat.not_lt_zero _)⟩ (fun i v next hi hv hn => hn _ ⟨by simp [hv.1], by rw [hv.2.1]; simp only; omega, fun j hj => ?_⟩) (fun v hv => ⟨hv.2.1, hv.1, hv.2.2⟩)
  rw [getD_set]
  split
  · rename_i e; rw [e.1, hv.2.1]
  · rename_i e; exact hv.2.2 j (by have := hv.1; omega)
theorem heldIntS_of (l : List Int) (k : Int) (h : ∀ i : Nat, i < l.length → l.getD i default = k + i) : heldIntS l k = k + l.length := by
  unfold heldIntS
  refine loopN_to (fun i (v : Int) => v = k + i) (fun (r : Int) => r = k + l.length) (by simp) (fun i v next hi hv hn => ?_) (fun v hv => hv)
  rw [hv, h i hi]
  simp only [decide_true, Bool.not_true, cond_false]
  exact hn _ (by omega)
theorem held_mark (l : List Int) (k : Int) : heldIntS (markIntS l k).2 k = (markIntS l k).1 := by
  obtain ⟨h1, h2, h3⟩ := markIntS_val l k
  rw [heldIntS_of _ _ (by rw [h2]; exact h3), h1, h2]
theorem markPersonS_val (l : List Person) (k : Int) : (markPersonS l k).1 = k + 6 * l.length := by
  unfold markPersonS
  exact loopN_to (fun i (v : List Person × Int) => v.2 = k + 6 * i) (fun (r : Int × List Person) => r.1 = k + 6 * l.length) (by simp) (fun i v next hi hv hn => hn _ (by rw [hv]; simp only; omega)) (fun v hv => hv)
theorem markUnionS_val (l : List Union) (k : Int) : (markUnionS l k).1 = k + 4 * l.length := by
  unfold markUnionS
  exact loopN_to (fun i (v : List Union × Int) => v.2 = k + 4 * i) (fun (r : Int × List Union) => r.1 = k + 4 * l.length) (by simp) (fun i v next hi hv hn => hn _ (by rw [hv]; simp only; omega)) (fun v hv => hv)
def C15 (x0 : Family) (x1 : Int) (R : Int × Family) : LV × List (Nat × BC) := (.int .i64 R.1, [(900000, .arr 6 R.2.people.length (rowOf (cPerson true) R.2.people)), (900001, .arr 4 R.2.unions.length (rowOf (cUnion true) R.2.unions))])
def markFamily (x0 : Family) (x1 : Int) : Int × Family := ((markUnionS x0.unions ((markPersonS x0.people x1).1)).1, (Family.mk ((markPersonS x0.people x1).2) ((markUnionS x0.unions ((markPersonS x0.people x1).1)).2)))
def A15 (x0 : Family) (x1 : Int) : Ann := .reg 4 [] [(1003, k46 8 [900000] x0.people x1), (2003, k47 12 [900001] x0.unions ((markPersonS x0.people x1).1))] [4] [900000, 900001] [] [] [] [0, 4] (rt [(900000, some 900000), (900001, some 900001)] (C15 x0 x1 ((markUnionS x0.unions ((markPersonS x0.people x1).1)).1, (Family.mk ((markPersonS x0.people x1).2) ((markUnionS x0.unions ((markPersonS x0.people x1).1)).2)))))
theorem ok_laws_markFamily (x0 : Family) (x1 : Int) (hx : x0.people.length ≤ 1048576) (hu : x0.unions.length ≤ 1048576) (hk : 0 ≤ x1 ∧ x1 ≤ 10000000) : FnMT Try.prog 15 [.agg [.own 900000, .own 900001], .int .i64 x1] [.arr 6 x0.people.length (rowOf (cPerson true) x0.people), .arr 4 x0.unions.length (rowOf (cUnion true) x0.unions)] (C15 x0 x1 (markFamily x0 x1)) := by
  have aux : ∀ R, markFamily x0 x1 = R → slim (C15 x0 x1 R) (A15 x0 x1) [] := by
    intro R hR
    refine rg ⟨⟨by trivial, by (intros; omega)⟩, ⟨by trivial, by (have := markPersonS_val x0.people x1; omega)⟩, trivial⟩ ?_
    exact congrArg (C15 x0 x1) hR
  exact FnM.go 14 Try.func15 (by kernel_rfl) (by kernel_rfl) (A15 x0 x1) (by kernel_rfl) (aux _ rfl)
def k15 (d : Nat) (ids : List Nat) (x0 : Family) (x1 : Int) : Cl := (hresM d ids (C15 x0 x1 (markFamily x0 x1)), k3 (ok_laws_markFamily x0 x1))
def C136 (R : Bool) : LV × List (Nat × BC) := (.bool R, [])
def l1Elder (x0 : Family) (x1 : Int) (x2 : Int) : Bool := (decide (((x0.people.getD x1.toNat default).born) < ((x0.people.getD x2.toNat default).born))) || ((decide (((x0.people.getD x1.toNat default).born) = ((x0.people.getD x2.toNat default).born))) && (decide (x1 < x2)))
def A136 (x0 : Family) (x1 : Int) (x2 : Int) : Ann := .reg 4 [] [] [6] [] [!(decide (((x0.people.getD x1.toNat default).born) < ((x0.people.getD x2.toNat default).born))), (!(decide (((x0.people.getD x1.toNat default).born) < ((x0.people.getD x2.toNat default).born)))) && (decide (((x0.people.getD x1.toNat default).born) = ((x0.people.getD x2.toNat default).born))), decide (((x0.people.getD x1.toNat default).born) < ((x0.people.getD x2.toNat default).born))] [pf (0 ≤ (x1 : Int) ∧ (x1 : Int) < ((x0.people.length : Nat) : Int)), pf (0 ≤ (x2 : Int) ∧ (x2 : Int) < ((x0.people.length : Nat) : Int)), gt (!(decide (((x0.people.getD x1.toNat default).born) < ((x0.people.getD x2.toNat default).born)))) (gt (decide (((x0.people.getD x1.toNat default).born) = ((x0.people.getD x2.toNat default).born))) (pf (((!(decide (((x0.people.getD x1.toNat default).born) < ((x0.people.getD x2.toNat default).born)))) && (decide (((x0.people.getD x1.toNat default).born) = ((x0.people.getD x2.toNat default).born)))) = true)))] [] [0, 4, 1, 1, 1, 5, 5, 1, 8, 10] (rt [] (C136 ((decide (((x0.people.getD x1.toNat default).born) < ((x0.people.getD x2.toNat default).born))) || ((decide (((x0.people.getD x1.toNat default).born) = ((x0.people.getD x2.toNat default).born))) && (decide (x1 < x2))))))
theorem ok_spec_l1Elder (x0 : Family) (x1 : Int) (x2 : Int) (hx : x0.people.length ≤ 1048576) (h1 : 0 ≤ x1 ∧ x1 < x0.people.length) (h2 : 0 ≤ x2 ∧ x2 < x0.people.length) : FnT Try.prog 136 [.agg (cFamily false x0), .int .i64 x1, .int .i64 x2] (C136 (l1Elder x0 x1 x2)) := by
  have aux : ∀ R, l1Elder x0 x1 x2 = R → slim (C136 R) (A136 x0 x1 x2) [] := by
    intro R hR
    refine rg ⟨by trivial, by trivial, by ((try clear hR); intros; (try simp only [decide_eq_true_eq, decide_eq_false_iff_not, Bool.or_eq_true, Bool.and_eq_true, or_f_iff, not_f_iff, not_t_iff, Bool.not_eq_true', inR] at *); (repeat' apply And.intro) <;> (intros; omega)), trivial⟩ ?_
    exact congrArg C136 hR
  exact Fn.go 34 Try.func136 (by kernel_rfl) (by kernel_rfl) (by simp [C136, Frs, FrsL]) (A136 x0 x1 x2) (by kernel_rfl) (aux _ rfl)
def k136 (x0 : Family) (x1 : Int) (x2 : Int) : Cl := (hres (C136 (l1Elder x0 x1 x2)), k3 (ok_spec_l1Elder x0 x1 x2))
def C127 (R : (List Int)) : LV × List (Nat × BC) := (.own 0, [(0, .arr 1 R.length (rowOf (cInt .i64) R))])
def l1ByAge (x0 : Family) (x1 : List Int) (x2 : Int) : (List Int) := loopN (fun i1 (v1 : (List Int) × Bool) next => bif ((!v1.2) && (l1Elder x0 x2 (x1.getD i1 default))) then (next (((v1.1 ++ [x2]) ++ [(x1.getD i1 default)]), true)) else (next ((v1.1 ++ [(x1.getD i1 default)]), v1.2))) (fun (v1 : (List Int) × Bool) => bif (!v1.2) then (v1.1 ++ [x2]) else v1.1) x1.length 0 (([] : List Int), false)
def D127b1 (x0 : Family) (x1 : List Int) (x2 : Int) (i1 : Nat) (v1 : (List Int) × Bool) : Dl := ⟨[(14, .int .i64 ((i1 : Nat) : Int)), (7, .own 20007), (8, .bool v1.2)], [(20007, .arr 1 v1.1.length (rowOf (cInt .i64) v1.1))]⟩
def A127b1 (x0 : Family) (x1 : List Int) (x2 : Int) (i1 : Nat) (v1 : (List Int) × Bool) : Ann := r0 1 [2, 3, 6, 7, 8, 12, 13, 14, 15] [3, 20007] (cn (decide (((i1 : Nat) : Int) < ((x1.length : Nat) : Int))) (r1 1 [2, 3, 6, 7, 8, 10, 12, 13, 14] [3, 20007] [pf (0 ≤ (((i1 : Nat) : Int) : Int) ∧ (((i1 : Nat) : Int) : Int) < ((x1.length : Nat) : Int))] [0] (.reg 1 [] [(6, cg (!v1.2) (k136 x0 x2 (x1.getD i1 default)))] [2, 3, 6, 7, 8, 10, 12, 13, 14, 25] [3, 20007] [!v1.2] [] [] [1, 1, 1, 0, 1] (cn ((!v1.2) && (l1Elder x0 x2 (x1.getD i1 default))) (.reg 1 [] [(2, bsC 28 (cInt .i64) ([x2] : List Int)), (3, ap1 29 (cInt .i64) 8 v1.1 x2)] [2, 3, 6, 7, 8, 10, 12, 13, 14] [3, 29] [] [] [] [0, 4] (r0 1 [2, 3, 6, 7, 8, 10, 12, 13, 14] [3, 29] (.reg 1 [] [(2, bsC 32 (cInt .i64) ([(x1.getD i1 default)] : List Int)), (3, ap1 33 (cInt .i64) 8 (v1.1 ++ [x2]) (x1.getD i1 default))] [2, 3, 6, 7, 8, 12, 13, 14] [3, 33] [] [] [] [0, 4] (r1 1 [2, 3, 6, 7, 8, 12, 13, 14] [3, 33] [pf (inR .i64 (((i1 : Nat) : Int) + 1))] [0] (.next 0 [(20007, some 33)] (D127b1 x0 x1 x2 (i1 + 1) (((v1.1 ++ [x2]) ++ [(x1.getD i1 default)]), true))))))) (.reg 1 [] [(2, bsC 32 (cInt .i64) ([(x1.getD i1 default)] : List Int)), (3, ap1 33 (cInt .i64) 8 v1.1 (x1.getD i1 default))] [2, 3, 6, 7, 8, 12, 13, 14] [3, 33] [] [] [] [0, 4] (r1 1 [2, 3, 6, 7, 8, 12, 13, 14] [3, 33] [pf (inR .i64 (((i1 : Nat) : Int) + 1))] [0] (.next 0 [(20007, some 33)] (D127b1 x0 x1 x2 (i1 + 1) ((v1.1 ++ [(x1.getD i1 default)]), v1.2)))))))) (r0 1 [2, 6, 7, 36] [20007] (cn (!v1.2) (.reg 1 [] [(2, bsC 39 (cInt .i64) ([x2] : List Int)), (3, ap1 40 (cInt .i64) 8 v1.1 x2)] [6, 7] [40] [] [] [] [0, 4] (r0 1 [6] [40] (rt [(0, some 40)] (C127 (v1.1 ++ [x2]))))) (r0 1 [6] [20007] (rt [(0, some 20007)] (C127 v1.1))))))
def A127 (x0 : Family) (x1 : List Int) (x2 : Int) : Ann := .reg 3 [] [(1000, bsC 11 (cInt .i64) ([] : List Int))] [1, 2, 3, 6, 7, 8] [3, 11] [] [] [] [0] (r0 1 [2, 3, 6, 7, 8, 12, 13, 14] [3, 11] (lp (D127b1 x0 x1 x2) [] [11] [(20007, some 11)] (D127b1 x0 x1 x2 0 (([] : List Int), false)) (A127b1 x0 x1 x2)))
theorem ok_spec_l1ByAge (x0 : Family) (x1 : List Int) (x2 : Int) (hx : x0.people.length ≤ 1048576) (h1 : ∀ y ∈ x1, 0 ≤ y ∧ y < x0.people.length) (h2 : 0 ≤ x2 ∧ x2 < x0.people.length) (h3 : x1.length ≤ 1048576) : FnT Try.prog 127 [.agg (cFamily false x0), .ro false 1 x1.length (rowOf (cInt .i64) x1), .int .i64 x2] (C127 (l1ByAge x0 x1 x2)) := by
  have aux : ∀ R, l1ByAge x0 x1 x2 = R → slim (C127 R) (A127 x0 x1 x2) [] := by
    intro R hR
    refine rg ⟨trivial, trivial⟩ ?_
    refine rg trivial ?_
    revert hR; refine lN (fun i v => v.1.length ≤ 2 * i) (by trivial) rfl fun i1 v1 F1 hn1 hI1 hR hK1 => ?_
    refine rg trivial ?_
    refine ⟨fun hc1 => ?_, fun hc1 => ?_⟩
    · have hii1 : i1 < x1.length := by have := of_decide_eq_true hc1; omega
      replace hR := loopN_step hR hii1
      refine rg ⟨by (intros; omega), trivial⟩ ?_
      refine rg ⟨fun hg0 => ⟨by trivial, by trivial, by ((try clear hR hK1); intros; (try simp only [decide_eq_true_eq, decide_eq_false_iff_not, Bool.or_eq_true, Bool.and_eq_true, or_f_iff, not_f_iff, not_t_iff, Bool.not_eq_true', inR] at *); (repeat' apply And.intro) <;> (simp_all [inR]; done))⟩, trivial⟩ ?_
      revert hR; refine cd (fun hc2 hR => ?_) fun hc2 hR => ?_
      ·
        refine rg ⟨trivial, by omega, trivial⟩ ?_
        refine rg trivial ?_
        refine rg ⟨trivial, by (simp; omega), trivial⟩ ?_
        refine rg ⟨by ( intros; simp only [inR]; omega), trivial⟩ ?_
        exact hK1 (((v1.1 ++ [x2]) ++ [(x1.getD i1 default)]), true) hii1 (by ((try simp only [decide_eq_true_eq, decide_eq_false_iff_not, List.length_append, List.length_set, List.length_cons, List.length_nil, List.length_replicate] at *); omega)) hR
      ·
        refine rg ⟨trivial, by omega, trivial⟩ ?_
        refine rg ⟨by ( intros; simp only [inR]; omega), trivial⟩ ?_
        exact hK1 ((v1.1 ++ [(x1.getD i1 default)]), v1.2) hii1 (by ((try simp only [decide_eq_true_eq, decide_eq_false_iff_not, List.length_append, List.length_set, List.length_cons, List.length_nil, List.length_replicate] at *); omega)) hR
    · obtain rfl : i1 = x1.length := by have := of_decide_eq_false hc1; omega
      replace hR := loopN_end hR (Nat.lt_irrefl _)
      refine rg trivial ?_
      revert hR; refine cd (fun hc3 hR => ?_) fun hc3 hR => ?_
      ·
        refine rg ⟨trivial, by omega, trivial⟩ ?_
        refine rg trivial ?_
        exact congrArg C127 hR
      ·
        refine rg trivial ?_
        exact congrArg C127 hR
  exact Fn.go 42 Try.func127 (by kernel_rfl) (by kernel_rfl) (by simp [C127, Frs, FrsL, FrsB, rowOf, cInt, cBool, cStr, cSl, FrsL_app, cPerson, cUnion, cFamily]) (A127 x0 x1 x2) (by kernel_rfl) (aux _ rfl)
def k127 (x0 : Family) (x1 : List Int) (x2 : Int) : Cl := (hres (C127 (l1ByAge x0 x1 x2)), k4 (ok_spec_l1ByAge x0 x1 x2))
end Go.Proofs.Ytfbkeokpiihkaaa
