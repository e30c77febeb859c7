import Derived.Test.YtmefknjcgdbceaaV20
set_option maxHeartbeats 4000000
set_option linter.unusedSimpArgs false
set_option linter.unusedVariables false
namespace Go.Proofs.Ytmefknjcgdbceaa
open Go Go.Lite Go.Proofs
theorem markPersonS_val (l : List Person) (k : Int) : (markPersonS l k).1 = k + 6 * l.length := by
  unfold markPersonS
  exact loopN_to (fun i (v : List Person × Int) => v.2 = k + 6 * i) (fun (r : Int × List Person) => r.1 = k + 6 * l.length) (by simp) (fun i v next hi hv hn => hn _ (by rw [hv]; simp only; omega)) (fun v hv => hv)
theorem markUnionS_val (l : List Union) (k : Int) : (markUnionS l k).1 = k + 4 * l.length := by
  unfold markUnionS
  exact loopN_to (fun i (v : List Union × Int) => v.2 = k + 4 * i) (fun (r : Int × List Union) => r.1 = k + 4 * l.length) (by simp) (fun i v next hi hv hn => hn _ (by rw [hv]; simp only; omega)) (fun v hv => hv)
def C10 (x0 : Family) (x1 : Int) (R : Int × Family) : LV × List (Nat × BC) := (.int .i64 R.1, [(900000, .arr 6 R.2.people.length (rowOf (cPerson true) R.2.people)), (900001, .arr 4 R.2.unions.length (rowOf (cUnion true) R.2.unions))])
def markFamily (x0 : Family) (x1 : Int) : Int × Family := ((markUnionS x0.unions ((markPersonS x0.people x1).1)).1, (Family.mk ((markPersonS x0.people x1).2) ((markUnionS x0.unions ((markPersonS x0.people x1).1)).2)))
def A10 (x0 : Family) (x1 : Int) : Ann := .reg 4 [] [(1003, k32 8 [900000] x0.people x1), (2003, k33 12 [900001] x0.unions ((markPersonS x0.people x1).1))] [4] [900000, 900001] [] [] [] [0, 4] (rt [(900000, some 900000), (900001, some 900001)] (C10 x0 x1 ((markUnionS x0.unions ((markPersonS x0.people x1).1)).1, (Family.mk ((markPersonS x0.people x1).2) ((markUnionS x0.unions ((markPersonS x0.people x1).1)).2)))))
theorem ok_laws_markFamily (x0 : Family) (x1 : Int) (hx : x0.people.length ≤ 1048576) (hu : x0.unions.length ≤ 1048576) (hk : 0 ≤ x1 ∧ x1 ≤ 10000000) : FnMT Try.prog 10 [.agg [.own 900000, .own 900001], .int .i64 x1] [.arr 6 x0.people.length (rowOf (cPerson true) x0.people), .arr 4 x0.unions.length (rowOf (cUnion true) x0.unions)] (C10 x0 x1 (markFamily x0 x1)) := by
  have aux : ∀ R, markFamily x0 x1 = R → slim (C10 x0 x1 R) (A10 x0 x1) [] := by
    intro R hR
    refine rg ⟨⟨by trivial, by (intros; omega)⟩, ⟨by trivial, by (have := markPersonS_val x0.people x1; omega)⟩, trivial⟩ ?_
    exact congrArg (C10 x0 x1) hR
  exact FnM.go 14 Try.func10 (by kernel_rfl) (by kernel_rfl) (A10 x0 x1) (by kernel_rfl) (aux _ rfl)
def k10 (d : Nat) (ids : List Nat) (x0 : Family) (x1 : Int) : Cl := (hresM d ids (C10 x0 x1 (markFamily x0 x1)), k3 (ok_laws_markFamily x0 x1))
def C40 (R : (List Int)) : LV × List (Nat × BC) := (.own 0, [(0, .arr 1 R.length (rowOf (cInt .i64) R))])
def l3Listed (x0 : List Bool) : (List Int) := loopN (fun i1 (v1 : (List Int)) next => bif (x0.getD i1 default) then (next (v1 ++ [((i1 : Nat) : Int)])) else (next v1)) (fun (v1 : (List Int)) => v1) x0.length 0 ([] : List Int)
def D40b1 (x0 : List Bool) (i1 : Nat) (v1 : (List Int)) : Dl := ⟨[(9, .int .i64 ((i1 : Nat) : Int)), (3, .own 20003)], [(20003, .arr 1 v1.length (rowOf (cInt .i64) v1))]⟩
def A40b1 (x0 : List Bool) (i1 : Nat) (v1 : (List Int)) : Ann := r0 1 [2, 3, 7, 8, 9, 10] [20003] (cn (decide (((i1 : Nat) : Int) < ((x0.length : Nat) : Int))) (r1 2 [2, 3, 4, 7, 8, 9, 14] [20003] [pf (0 ≤ (((i1 : Nat) : Int) : Int) ∧ (((i1 : Nat) : Int) : Int) < ((x0.length : Nat) : Int))] [0] (cn (x0.getD i1 default) (.reg 1 [] [(2, bsC 17 (cInt .i64) ([((i1 : Nat) : Int)] : List Int)), (3, ap1 18 (cInt .i64) 8 v1 ((i1 : Nat) : Int))] [2, 3, 7, 8, 9] [18] [] [] [] [0, 4] (r1 1 [2, 3, 7, 8, 9] [18] [pf (inR .i64 (((i1 : Nat) : Int) + 1))] [0] (.next 0 [(20003, some 18)] (D40b1 x0 (i1 + 1) (v1 ++ [((i1 : Nat) : Int)]))))) (r1 1 [2, 3, 7, 8, 9] [20003] [pf (inR .i64 (((i1 : Nat) : Int) + 1))] [0] (.next 0 [(20003, some 20003)] (D40b1 x0 (i1 + 1) v1))))) (r0 1 [2] [20003] (rt [(0, some 20003)] (C40 v1))))
def A40 (x0 : List Bool) : Ann := .reg 2 [] [(1000, bsC 6 (cInt .i64) ([] : List Int))] [0, 2, 3] [6] [] [] [] [0] (r0 1 [2, 3, 7, 8, 9] [6] (lp (D40b1 x0) [] [6] [(20003, some 6)] (D40b1 x0 0 ([] : List Int)) (A40b1 x0)))
theorem ok_spec_l3Listed (x0 : List Bool) (hx : x0.length ≤ 1048576) : FnT Try.prog 40 [.ro false 1 x0.length (rowOf (cBool) x0)] (C40 (l3Listed x0)) := by
  have aux : ∀ R, l3Listed x0 = R → slim (C40 R) (A40 x0) [] := by
    intro R hR
    refine rg ⟨trivial, trivial⟩ ?_
    refine rg trivial ?_
    revert hR; refine lN (fun i v => v.length ≤ i) (by trivial) rfl fun i1 v1 F1 hn1 hI1 hR hK1 => ?_
    refine rg trivial ?_
    refine ⟨fun hc1 => ?_, fun hc1 => ?_⟩
    · have hii1 : i1 < x0.length := by have := of_decide_eq_true hc1; omega
      replace hR := loopN_step hR hii1
      refine rg ⟨by (intros; omega), trivial⟩ ?_
      revert hR; refine cd (fun hc2 hR => ?_) fun hc2 hR => ?_
      ·
        refine rg ⟨trivial, by omega, trivial⟩ ?_
        refine rg ⟨by ( intros; simp only [inR]; omega), trivial⟩ ?_
        exact hK1 (v1 ++ [((i1 : Nat) : Int)]) hii1 (by ((try simp only [decide_eq_true_eq, decide_eq_false_iff_not, List.length_append, List.length_set, List.length_cons, List.length_nil, List.length_replicate] at *); omega)) hR
      ·
        refine rg ⟨by ( intros; simp only [inR]; omega), trivial⟩ ?_
        exact hK1 v1 hii1 (by (intros; omega)) hR
    · obtain rfl : i1 = x0.length := by have := of_decide_eq_false hc1; omega
      replace hR := loopN_end hR (Nat.lt_irrefl _)
      refine rg trivial ?_
      exact congrArg C40 hR
  exact Fn.go 21 Try.func40 (by kernel_rfl) (by kernel_rfl) (by simp [C40, Frs, FrsL, FrsB, rowOf, cInt, cBool, cStr, cSl, FrsL_app, cPerson, cUnion, cFamily]) (A40 x0) (by kernel_rfl) (aux _ rfl)
def k40 (x0 : List Bool) : Cl := (hres (C40 (l3Listed x0)), k1 (ok_spec_l3Listed x0))
def C56 (R : Bool) : LV × List (Nat × BC) := (.bool R, [])
def l1Elder (x0 : Family) (x1 : Int) (x2 : Int) : Bool := (decide (((x0.people.getD x1.toNat default).born) < ((x0.people.getD x2.toNat default).born))) || ((decide (((x0.people.getD x1.toNat default).born) = ((x0.people.getD x2.toNat default).born))) && (decide (x1 < x2)))
def A56 (x0 : Family) (x1 : Int) (x2 : Int) : Ann := .reg 4 [] [] [6] [] [!(decide (((x0.people.getD x1.toNat default).born) < ((x0.people.getD x2.toNat default).born))), (!(decide (((x0.people.getD x1.toNat default).born) < ((x0.people.getD x2.toNat default).born)))) && (decide (((x0.people.getD x1.toNat default).born) = ((x0.people.getD x2.toNat default).born))), decide (((x0.people.getD x1.toNat default).born) < ((x0.people.getD x2.toNat default).born))] [pf (0 ≤ (x1 : Int) ∧ (x1 : Int) < ((x0.people.length : Nat) : Int)), pf (0 ≤ (x2 : Int) ∧ (x2 : Int) < ((x0.people.length : Nat) : Int)), gt (!(decide (((x0.people.getD x1.toNat default).born) < ((x0.people.getD x2.toNat default).born)))) (gt (decide (((x0.people.getD x1.toNat default).born) = ((x0.people.getD x2.toNat default).born))) (pf (((!(decide (((x0.people.getD x1.toNat default).born) < ((x0.people.getD x2.toNat default).born)))) && (decide (((x0.people.getD x1.toNat default).born) = ((x0.people.getD x2.toNat default).born)))) = true)))] [] [0, 4, 1, 1, 1, 5, 5, 1, 8, 10] (rt [] (C56 ((decide (((x0.people.getD x1.toNat default).born) < ((x0.people.getD x2.toNat default).born))) || ((decide (((x0.people.getD x1.toNat default).born) = ((x0.people.getD x2.toNat default).born))) && (decide (x1 < x2))))))
theorem ok_spec_l1Elder (x0 : Family) (x1 : Int) (x2 : Int) (hx : x0.people.length ≤ 1048576) (h1 : 0 ≤ x1 ∧ x1 < x0.people.length) (h2 : 0 ≤ x2 ∧ x2 < x0.people.length) : FnT Try.prog 56 [.agg (cFamily false x0), .int .i64 x1, .int .i64 x2] (C56 (l1Elder x0 x1 x2)) := by
  have aux : ∀ R, l1Elder x0 x1 x2 = R → slim (C56 R) (A56 x0 x1 x2) [] := by
    intro R hR
    refine rg ⟨by trivial, by trivial, by ((try clear hR); intros; (try simp only [decide_eq_true_eq, decide_eq_false_iff_not, Bool.or_eq_true, Bool.and_eq_true, or_f_iff, not_f_iff, not_t_iff, Bool.not_eq_true', inR] at *); (repeat' apply And.intro) <;> (intros; omega)), trivial⟩ ?_
    exact congrArg C56 hR
  exact Fn.go 34 Try.func56 (by kernel_rfl) (by kernel_rfl) (by simp [C56, Frs, FrsL]) (A56 x0 x1 x2) (by kernel_rfl) (aux _ rfl)
def k56 (x0 : Family) (x1 : Int) (x2 : Int) : Cl := (hres (C56 (l1Elder x0 x1 x2)), k3 (ok_spec_l1Elder x0 x1 x2))
def C39 (R : (List Int)) : LV × List (Nat × BC) := (.own 0, [(0, .arr 1 R.length (rowOf (cInt .i64) R))])
def l1ByAge (x0 : Family) (x1 : List Int) (x2 : Int) : (List Int) := loopN (fun i1 (v1 : (List Int) × Bool) next => bif ((!v1.2) && (l1Elder x0 x2 (x1.getD i1 default))) then (next (((v1.1 ++ [x2]) ++ [(x1.getD i1 default)]), true)) else (next ((v1.1 ++ [(x1.getD i1 default)]), v1.2))) (fun (v1 : (List Int) × Bool) => bif (!v1.2) then (v1.1 ++ [x2]) else v1.1) x1.length 0 (([] : List Int), false)
def D39b1 (x0 : Family) (x1 : List Int) (x2 : Int) (i1 : Nat) (v1 : (List Int) × Bool) : Dl := ⟨[(14, .int .i64 ((i1 : Nat) : Int)), (7, .own 20007), (8, .bool v1.2)], [(20007, .arr 1 v1.1.length (rowOf (cInt .i64) v1.1))]⟩
def A39b1 (x0 : Family) (x1 : List Int) (x2 : Int) (i1 : Nat) (v1 : (List Int) × Bool) : Ann := r0 1 [2, 3, 6, 7, 8, 12, 13, 14, 15] [3, 20007] (cn (decide (((i1 : Nat) : Int) < ((x1.length : Nat) : Int))) (r1 1 [2, 3, 6, 7, 8, 10, 12, 13, 14] [3, 20007] [pf (0 ≤ (((i1 : Nat) : Int) : Int) ∧ (((i1 : Nat) : Int) : Int) < ((x1.length : Nat) : Int))] [0] (.reg 1 [] [(6, cg (!v1.2) (k56 x0 x2 (x1.getD i1 default)))] [2, 3, 6, 7, 8, 10, 12, 13, 14, 25] [3, 20007] [!v1.2] [] [] [1, 1, 1, 0, 1] (cn ((!v1.2) && (l1Elder x0 x2 (x1.getD i1 default))) (.reg 1 [] [(2, bsC 28 (cInt .i64) ([x2] : List Int)), (3, ap1 29 (cInt .i64) 8 v1.1 x2)] [2, 3, 6, 7, 8, 10, 12, 13, 14] [3, 29] [] [] [] [0, 4] (r0 1 [2, 3, 6, 7, 8, 10, 12, 13, 14] [3, 29] (.reg 1 [] [(2, bsC 32 (cInt .i64) ([(x1.getD i1 default)] : List Int)), (3, ap1 33 (cInt .i64) 8 (v1.1 ++ [x2]) (x1.getD i1 default))] [2, 3, 6, 7, 8, 12, 13, 14] [3, 33] [] [] [] [0, 4] (r1 1 [2, 3, 6, 7, 8, 12, 13, 14] [3, 33] [pf (inR .i64 (((i1 : Nat) : Int) + 1))] [0] (.next 0 [(20007, some 33)] (D39b1 x0 x1 x2 (i1 + 1) (((v1.1 ++ [x2]) ++ [(x1.getD i1 default)]), true))))))) (.reg 1 [] [(2, bsC 32 (cInt .i64) ([(x1.getD i1 default)] : List Int)), (3, ap1 33 (cInt .i64) 8 v1.1 (x1.getD i1 default))] [2, 3, 6, 7, 8, 12, 13, 14] [3, 33] [] [] [] [0, 4] (r1 1 [2, 3, 6, 7, 8, 12, 13, 14] [3, 33] [pf (inR .i64 (((i1 : Nat) : Int) + 1))] [0] (.next 0 [(20007, some 33)] (D39b1 x0 x1 x2 (i1 + 1) ((v1.1 ++ [(x1.getD i1 default)]), v1.2)))))))) (r0 1 [2, 6, 7, 36] [20007] (cn (!v1.2) (.reg 1 [] [(2, bsC 39 (cInt .i64) ([x2] : List Int)), (3, ap1 40 (cInt .i64) 8 v1.1 x2)] [6, 7] [40] [] [] [] [0, 4] (r0 1 [6] [40] (rt [(0, some 40)] (C39 (v1.1 ++ [x2]))))) (r0 1 [6] [20007] (rt [(0, some 20007)] (C39 v1.1))))))
def A39 (x0 : Family) (x1 : List Int) (x2 : Int) : Ann := .reg 3 [] [(1000, bsC 11 (cInt .i64) ([] : List Int))] [1, 2, 3, 6, 7, 8] [3, 11] [] [] [] [0] (r0 1 [2, 3, 6, 7, 8, 12, 13, 14] [3, 11] (lp (D39b1 x0 x1 x2) [] [11] [(20007, some 11)] (D39b1 x0 x1 x2 0 (([] : List Int), false)) (A39b1 x0 x1 x2)))
theorem ok_spec_l1ByAge (x0 : Family) (x1 : List Int) (x2 : Int) (hx : x0.people.length ≤ 1048576) (h1 : ∀ y ∈ x1, 0 ≤ y ∧ y < x0.people.length) (h2 : 0 ≤ x2 ∧ x2 < x0.people.length) (h3 : x1.length ≤ 1048576) : FnT Try.prog 39 [.agg (cFamily false x0), .ro false 1 x1.length (rowOf (cInt .i64) x1), .int .i64 x2] (C39 (l1ByAge x0 x1 x2)) := by
  have aux : ∀ R, l1ByAge x0 x1 x2 = R → slim (C39 R) (A39 x0 x1 x2) [] := by
    intro R hR
    refine rg ⟨trivial, trivial⟩ ?_
    refine rg trivial ?_
    revert hR; refine lN (fun i v => v.1.length ≤ 2 * i) (by trivial) rfl fun i1 v1 F1 hn1 hI1 hR hK1 => ?_
    refine rg trivial ?_
    refine ⟨fun hc1 => ?_, fun hc1 => ?_⟩
    · have hii1 : i1 < x1.length := by have := of_decide_eq_true hc1; omega
      replace hR := loopN_step hR hii1
      refine rg ⟨by (intros; omega), trivial⟩ ?_
      refine rg ⟨fun hg0 => ⟨by trivial, by trivial, by ((try clear hR hK1); intros; (try simp only [decide_eq_true_eq, decide_eq_false_iff_not, Bool.or_eq_true, Bool.and_eq_true, or_f_iff, not_f_iff, not_t_iff, Bool.not_eq_true', inR] at *); (repeat' apply And.intro) <;> (simp_all [inR]; done))⟩, trivial⟩ ?_
      revert hR; refine cd (fun hc2 hR => ?_) fun hc2 hR => ?_
      ·
        refine rg ⟨trivial, by omega, trivial⟩ ?_
        refine rg trivial ?_
        refine rg ⟨trivial, by (simp; omega), trivial⟩ ?_
        refine rg ⟨by ( intros; simp only [inR]; omega), trivial⟩ ?_
        exact hK1 (((v1.1 ++ [x2]) ++ [(x1.getD i1 default)]), true) hii1 (by ((try simp only [decide_eq_true_eq, decide_eq_false_iff_not, List.length_append, List.length_set, List.length_cons, List.length_nil, List.length_replicate] at *); omega)) hR
      ·
        refine rg ⟨trivial, by omega, trivial⟩ ?_
        refine rg ⟨by ( intros; simp only [inR]; omega), trivial⟩ ?_
        exact hK1 ((v1.1 ++ [(x1.getD i1 default)]), v1.2) hii1 (by ((try simp only [decide_eq_true_eq, decide_eq_false_iff_not, List.length_append, List.length_set, List.length_cons, List.length_nil, List.length_replicate] at *); omega)) hR
    · obtain rfl : i1 = x1.length := by have := of_decide_eq_false hc1; omega
      replace hR := loopN_end hR (Nat.lt_irrefl _)
      refine rg trivial ?_
      revert hR; refine cd (fun hc3 hR => ?_) fun hc3 hR => ?_
      ·
        refine rg ⟨trivial, by omega, trivial⟩ ?_
        refine rg trivial ?_
        exact congrArg C39 hR
      ·
        refine rg trivial ?_
        exact congrArg C39 hR
  exact Fn.go 42 Try.func39 (by kernel_rfl) (by kernel_rfl) (by simp [C39, Frs, FrsL, FrsB, rowOf, cInt, cBool, cStr, cSl, FrsL_app, cPerson, cUnion, cFamily]) (A39 x0 x1 x2) (by kernel_rfl) (aux _ rfl)
def k39 (x0 : Family) (x1 : List Int) (x2 : Int) : Cl := (hres (C39 (l1ByAge x0 x1 x2)), Go.Lite.k4 (ok_spec_l1ByAge x0 x1 x2))
theorem l1ByAge_mem (x : Family) (l : List Int) (p y : Int) : y ∈ l1ByAge x l p ↔ y = p ∨ y ∈ l := by
  unfold l1ByAge
  refine loopN_to (fun i (v : List Int × Bool) => i ≤ l.length ∧ (y ∈ v.1 ↔ (v.2 = true ∧ y = p) ∨ y ∈ l.take i)) (fun (r : List Int) => y ∈ r ↔ y = p ∨ y ∈ l) ⟨Nat.zero_le _, by simp⟩ (fun i v next hi hv hn => ?_) (fun v hv => ?_)
  · have e : l.take (i + 1) = l.take i ++ [l.getD i default] := by
      rw [List.take_add_one, List.getD_eq_getElem?_getD, List.getElem?_eq_getElem hi]; rfl
    obtain ⟨w, d⟩ := v
    obtain ⟨h1, h2⟩ := hv
    refine cond_both (p := fun (r : List Int) => y ∈ r ↔ y = p ∨ y ∈ l) (fun c => hn _ ⟨hi, ?_⟩) (fun c => hn _ ⟨hi, ?_⟩)
    · simp only [Bool.and_eq_true, not_t_iff] at c
      simp only at h2
      simp only [List.mem_append, List.mem_singleton, h2, c.1, e, Bool.false_eq_true, false_and, false_or, true_and]
      constructor
      · rintro ((h | h) | h)
        · exact .inr (.inl h)
        · exact .inl h
        · exact .inr (.inr h)
      · rintro (h | h | h)
        · exact .inl (.inr h)
        · exact .inl (.inl h)
        · exact .inr h
    · simp only at h2
      simp only [List.mem_append, List.mem_singleton, h2, e, or_assoc]
  · have e : l.take l.length = l := List.take_length
    rw [e] at hv
    refine cond_both (p := fun (r : List Int) => y ∈ r ↔ y = p ∨ y ∈ l) (fun c => ?_) (fun c => ?_)
    · simp only [not_t_iff] at c
      simp only [List.mem_append, List.mem_singleton, hv.2, c, Bool.false_eq_true, false_and, false_or]
      exact Or.comm
    · simp only [not_f_iff] at c
      rw [hv.2, c]; simp
theorem l1ByAge_len (x : Family) (l : List Int) (p : Int) : (l1ByAge x l p).length = l.length + 1 := by
  unfold l1ByAge
  refine loopN_to (fun i (v : List Int × Bool) => v.1.length = i + (bif v.2 then 1 else 0)) (fun (r : List Int) => r.length = l.length + 1) (by simp) (fun i v next hi hv hn => ?_) (fun v hv => ?_)
  · obtain ⟨w, d⟩ := v
    refine cond_both (p := fun (r : List Int) => r.length = l.length + 1) (fun c => hn _ ?_) (fun c => hn _ ?_)
    · simp only [Bool.and_eq_true, not_t_iff] at c
      simp only [c.1, cond_false] at hv
      simp only [List.length_append, List.length_singleton, hv, cond_true]
    · simp only at hv
      simp only [List.length_append, List.length_singleton, hv]
      omega
  · obtain ⟨w, d⟩ := v
    cases d
    · simp only [Bool.not_false, cond_true, List.length_append, List.length_singleton]; simp only [cond_false] at hv; omega
    · simp only [Bool.not_true, cond_false]; simp only [cond_true] at hv; omega
/-- A family in the making: nobody died, births within bounds. -/
def dp (l : List Person) (k : Nat) : Int := (l1Depths ⟨l, []⟩).getD k default
def MkB (l : List Person) : Prop := ∀ k : Nat, k < l.length → (l.getD k default).born ≤ 11 + 30 * dp l k
theorem MkB.nil : MkB [] := fun k hk => absurd hk (Nat.not_lt_zero _)
/-- Some of those of a family in the making have died. -/
structure Dying (l : List Person) (v : List Person) : Prop where
  len : v.length = l.length
  same : ∀ k : Nat, k < l.length → (v.getD k default).name = (l.getD k default).name ∧ (v.getD k default).sex = (l.getD k default).sex ∧ (v.getD k default).father = (l.getD k default).father ∧ (v.getD k default).mother = (l.getD k default).mother ∧ (v.getD k default).born = (l.getD k default).born
  died : ∀ k : Nat, k < l.length → (v.getD k default).died = -1 ∨ (l.getD k default).born ≤ (v.getD k default).died ∧ (v.getD k default).died ≤ 500 ∧ ∀ c : Nat, c < l.length → (l.getD c default).father = k ∨ (l.getD c default).mother = k → (l.getD c default).born ≤ (v.getD k default).died
theorem Dying.set {l v : List Person} (h : Dying l v) {k : Nat} (hk : k < l.length) {y : Int} (h1 : (l.getD k default).born ≤ y ∧ y ≤ 500) (h2 : ∀ c : Nat, c < l.length → (l.getD c default).father = k ∨ (l.getD c default).mother = k → (l.getD c default).born ≤ y) :
    Dying l (v.set k ⟨(v.getD k default).name, (v.getD k default).sex, (v.getD k default).father, (v.getD k default).mother, (v.getD k default).born, y⟩) := by
  refine ⟨by simp [h.len], fun i hi => ?_, fun i hi => ?_⟩
  · rw [getD_set]
    split
    · rename_i e; rw [e.1]; exact h.same k hk
    · exact h.same i hi
  · rw [getD_set]
    split
    · rename_i e; rw [e.1]; exact .inr ⟨h1.1, h1.2, h2⟩
    · exact h.died i hi
end Go.Proofs.Ytmefknjcgdbceaa
