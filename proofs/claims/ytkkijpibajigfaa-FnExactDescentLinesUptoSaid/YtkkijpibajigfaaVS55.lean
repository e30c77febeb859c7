import Derived.Test.YtkkijpibajigfaaM160
set_option maxHeartbeats 4000000
set_option linter.unusedSimpArgs false
set_option linter.unusedVariables false
namespace Go.Proofs.Ytkkijpibajigfaa
open Go Go.Lite Go.Proofs
/-- What holds while numbers are put into slices of slices. -/
structure MkI (x : List (List Int)) (k0 : Int) (a : List (List Int)) (k i : Int) : Prop where
  ib : 0 ≤ i ∧ i ≤ a.length
  len : a.length = x.length
  inn : ∀ y ∈ a, y.length ≤ 1000
  lo : k0 ≤ k
  hi : k ≤ k0 + 1000 * i
theorem MkI.row {x : List (List Int)} {k0 : Int} {a : List (List Int)} {k i : Int} (h : MkI x k0 a k i) (j : Nat) : (a.getD j []).length ≤ 1000 := by
  rw [List.getD_eq_getElem?_getD]
  cases e : a[j]? with
  | none => exact Nat.zero_le _
  | some y => exact h.inn y (List.mem_of_getElem? e)
theorem MkI.start {x : List (List Int)} {k0 : Int} (h : ∀ y ∈ x, y.length ≤ 1000) : MkI x k0 x k0 0 := ⟨by omega, rfl, h, Int.le_refl _, by omega⟩
theorem MkI.step {x : List (List Int)} {k0 : Int} {a : List (List Int)} {k i : Int} (h : MkI x k0 a k i) (hi : i < a.length) : MkI x k0 (a.set i.toNat (markIntS (a.getD i.toNat []) k).2) (markIntS (a.getD i.toNat []) k).1 (i + 1) := by
  obtain ⟨m1, m2, _⟩ := markIntS_val (a.getD i.toNat []) k
  have hr := h.row i.toNat
  have h1 := h.ib; have h2 := h.lo; have h3 := h.hi
  refine ⟨by rw [List.length_set]; omega, by rw [List.length_set]; exact h.len, fun y hy => ?_, by omega, by omega⟩
  rcases List.mem_or_eq_of_mem_set hy with c | c
  · exact h.inn y c
  · rw [c, m2]; exact hr
theorem row_le {x : List (List Int)} {n : Nat} (h : ∀ y ∈ x, y.length ≤ n) (j : Nat) : (x.getD j default).length ≤ n := by
  rw [List.getD_eq_getElem?_getD]
  cases e : x[j]? with
  | none => exact Nat.zero_le _
  | some y => exact h y (List.mem_of_getElem? e)

def C29 (R : Bool) : LV × List (Nat × BC) := (.bool R, [])
def eqIntSS (x0 : List (List Int)) (x1 : List (List Int)) : Bool := bif (!decide (((x0.length : Nat) : Int) = ((x1.length : Nat) : Int))) then false else (loopN (fun i1 (v1 : Unit) next => bif (!(eqIntS (x0.getD i1 default) (x1.getD i1 default))) then false else (next ())) (fun (v1 : Unit) => true) x0.length 0 ())
def D29b1 (x0 : List (List Int)) (x1 : List (List Int)) (i1 : Nat) (v1 : Unit) : Dl := ⟨[(5, .int .i64 ((i1 : Nat) : Int))], []⟩
def A29b1 (x0 : List (List Int)) (x1 : List (List Int)) (i1 : Nat) (v1 : Unit) : Ann := r0 1 [0, 1, 4, 5, 14] [] (cn (decide (((i1 : Nat) : Int) < ((x0.length : Nat) : Int))) (.reg 1 [] [(8, k63 (x0.getD i1 default) (x1.getD i1 default))] [0, 1, 4, 5, 26] [] [] [pf (0 ≤ (((i1 : Nat) : Int) : Int) ∧ (((i1 : Nat) : Int) : Int) < ((x0.length : Nat) : Int)), pf (0 ≤ (((i1 : Nat) : Int) : Int) ∧ (((i1 : Nat) : Int) : Int) < ((x1.length : Nat) : Int))] [] [0, 4, 8] (cn (!(eqIntS (x0.getD i1 default) (x1.getD i1 default))) (r0 1 [0, 1, 4, 5] [] (rt [] (C29 false))) (r1 1 [0, 1, 4, 5] [] [pf (inR .i64 (((i1 : Nat) : Int) + 1))] [0] (.next 0 [] (D29b1 x0 x1 (i1 + 1) ()))))) (r0 1 [4] [] (rt [] (C29 true))))
def A29 (x0 : List (List Int)) (x1 : List (List Int)) : Ann := r0 1 [0, 1, 4] [] (r0 1 [0, 1, 4, 10] [] (cn (!decide (((x0.length : Nat) : Int) = ((x1.length : Nat) : Int))) (r0 1 [0, 1, 4] [] (rt [] (C29 false))) (r0 1 [0, 1, 4, 5] [] (lp (D29b1 x0 x1) [] [] [] (D29b1 x0 x1 0 ()) (A29b1 x0 x1)))))
theorem ok_laws_eqIntSS (x0 : List (List Int)) (x1 : List (List Int)) (hx : x0.length ≤ 1000 ∧ ∀ y ∈ x0, y.length ≤ 1000) : FnT Try.prog 29 [.ro false 1 x0.length (rowOf (cSl false 1 (cInt .i64)) x0), .ro false 1 x1.length (rowOf (cSl false 1 (cInt .i64)) x1)] (C29 (eqIntSS x0 x1)) := by
  have aux : ∀ R, eqIntSS x0 x1 = R → slim (C29 R) (A29 x0 x1) [] := by
    intro R hR
    refine rg trivial ?_
    refine rg trivial ?_
    revert hR; refine cd (fun hc1 hR => ?_) fun hc1 hR => ?_
    ·
      refine rg trivial ?_
      exact congrArg C29 hR
    ·
      refine rg trivial ?_
      revert hR; refine lN (fun i v => True) (by trivial) rfl fun i1 v1 F1 hn1 hI1 hR hK1 => ?_
      refine rg trivial ?_
      refine ⟨fun hc2 => ?_, fun hc2 => ?_⟩
      · have hii1 : i1 < x0.length := by have := of_decide_eq_true hc2; omega
        replace hR := loopN_step hR hii1
        refine rg ⟨by (intros; omega), by ((try clear hR hK1); intros; (try simp only [decide_eq_true_eq, decide_eq_false_iff_not, Bool.or_eq_true, Bool.and_eq_true, or_f_iff, not_f_iff, not_t_iff, Bool.not_eq_true', inR] at *); (repeat' apply And.intro) <;> (intros; omega)), by (exact Nat.le_trans (row_le hx.2 _) (by decide)), trivial⟩ ?_
        revert hR; refine cd (fun hc3 hR => ?_) fun hc3 hR => ?_
        ·
          refine rg trivial ?_
          exact congrArg C29 hR
        ·
          refine rg ⟨by ( intros; simp only [inR]; omega), trivial⟩ ?_
          exact hK1 () hii1 (by trivial) hR
      · obtain rfl : i1 = x0.length := by have := of_decide_eq_false hc2; omega
        replace hR := loopN_end hR (Nat.lt_irrefl _)
        refine rg trivial ?_
        exact congrArg C29 hR
  exact Fn.go 27 Try.func29 (by kernel_rfl) (by kernel_rfl) (by simp [C29, Frs, FrsL]) (A29 x0 x1) (by kernel_rfl) (aux _ rfl)
def k29 (x0 : List (List Int)) (x1 : List (List Int)) : Cl := (hres (C29 (eqIntSS x0 x1)), k1 (ok_laws_eqIntSS x0 x1))
def C31 (x0 : List (List Int)) (x1 : Int) (R : Int × (List (List Int))) : LV × List (Nat × BC) := (.int .i64 R.1, [(900000, .nest true 1 R.2.length (nrOf (cInt .i64) R.2))])
def markIntSS (x0 : List (List Int)) (x1 : Int) : Int × (List (List Int)) := loopW (fun (v1 : (List (List Int)) × Int × Int) next => bif (decide (v1.2.2 < ((v1.1.length : Nat) : Int))) then (next ((v1.1.set v1.2.2.toNat ((markIntS (v1.1.getD v1.2.2.toNat []) v1.2.1).2)), (markIntS (v1.1.getD v1.2.2.toNat []) v1.2.1).1, v1.2.2 + 1)) else (v1.2.1, v1.1)) (((x0.length : Int) - 0).toNat + 1) (x0, x1, 0)
def D31b1 (x0 : List (List Int)) (x1 : Int) (v1 : (List (List Int)) × Int × Int) : Dl := ⟨[(0, .own 900000), (1, .int .i64 v1.2.1), (5, .int .i64 v1.2.2)], [(900000, .nest true 1 v1.1.length (nrOf (cInt .i64) v1.1))]⟩
def A31b1 (x0 : List (List Int)) (x1 : Int) (v1 : (List (List Int)) × Int × Int) : Ann := r0 1 [0, 1, 4, 5, 9] [900000] (cn (decide (v1.2.2 < ((v1.1.length : Nat) : Int))) (.reg 1 [] [(3, nTk (cInt .i64) v1.1 v1.2.2.toNat 15), (5, k66 17 [15] (v1.1.getD v1.2.2.toNat []) v1.2.1)] [0, 1, 4, 5] [900000, 15] [] [pf (0 ≤ (v1.2.2 : Int) ∧ (v1.2.2 : Int) < ((v1.1.length : Nat) : Int))] [] [0, 4, 8] (.put 900000 15 ((v1.1.set v1.2.2.toNat ((markIntS (v1.1.getD v1.2.2.toNat []) v1.2.1).2)).length) (nrOf (cInt .i64) (v1.1.set v1.2.2.toNat ((markIntS (v1.1.getD v1.2.2.toNat []) v1.2.1).2))) [nPb (cInt .i64) v1.1 ((markIntS (v1.1.getD v1.2.2.toNat []) v1.2.1).2) v1.2.2.toNat 15] [] 0 (r1 1 [0, 1, 4, 5] [900000] [pf (inR .i64 (v1.2.2 + 1))] [0] (.next 0 [(900000, some 900000)] (D31b1 x0 x1 ((v1.1.set v1.2.2.toNat ((markIntS (v1.1.getD v1.2.2.toNat []) v1.2.1).2)), (markIntS (v1.1.getD v1.2.2.toNat []) v1.2.1).1, v1.2.2 + 1)))))) (r0 1 [4] [900000] (rt [(900000, some 900000)] (C31 x0 x1 (v1.2.1, v1.1)))))
def A31 (x0 : List (List Int)) (x1 : Int) : Ann := r0 1 [0, 1, 4] [900000] (r0 1 [0, 1, 4, 5] [900000] (.loop ((List (List Int)) × Int × Int) (D31b1 x0 x1) [] [] [(900000, some 900000)] (D31b1 x0 x1 (x0, x1, 0)) (A31b1 x0 x1)))
theorem ok_laws_markIntSS (x0 : List (List Int)) (x1 : Int) (hx : x0.length ≤ 1000 ∧ ∀ y ∈ x0, y.length ≤ 1000) (hk : 0 ≤ x1 ∧ x1 ≤ 1000) : FnMT Try.prog 31 [.own 900000, .int .i64 x1] [.nest true 1 x0.length (nrOf (cInt .i64) x0)] (C31 x0 x1 (markIntSS x0 x1)) := by
  have aux : ∀ R, markIntSS x0 x1 = R → slim (C31 x0 x1 R) (A31 x0 x1) [] := by
    intro R hR
    refine rg trivial ?_
    refine rg trivial ?_
    revert hR; refine lW (fun v => MkI x0 x1 v.1 v.2.1 v.2.2) (fun v => ((v.1.length : Int) - v.2.2).toNat) (by (exact MkI.start hx.2)) (Nat.lt_succ_self _) rfl fun m1 v1 F1 hI1 hM1 hR hK1 => ?_
    refine rg trivial ?_
    revert hR; refine cd (fun hc1 hR => ?_) fun hc1 hR => ?_
    ·
      refine rg ⟨by (have h8 := of_decide_eq_true hc1; have h9 := hI1.ib; have h7 := hI1.len; (try simp only [inR]); (try simp only [List.length_set]); omega), trivial, ⟨by (have h9 := hI1.row v1.2.2.toNat; omega), by (have h8 := of_decide_eq_true hc1; have h9 := hI1.lo; have h7 := hI1.hi; have h6 := hI1.ib; have h5 := hI1.len; omega)⟩, trivial⟩ ?_
      refine pg (by (have h8 := of_decide_eq_true hc1; have h9 := hI1.ib; have h7 := hI1.len; (try simp only [inR]); (try simp only [List.length_set]); omega)) ?_
      refine rg ⟨by (have h8 := of_decide_eq_true hc1; have h9 := hI1.ib; have h7 := hI1.len; (try simp only [inR]); (try simp only [List.length_set]); omega), trivial⟩ ?_
      exact hK1 ((v1.1.set v1.2.2.toNat ((markIntS (v1.1.getD v1.2.2.toNat []) v1.2.1).2)), (markIntS (v1.1.getD v1.2.2.toNat []) v1.2.1).1, v1.2.2 + 1) (by (exact hI1.step (of_decide_eq_true hc1))) (by (have h8 := of_decide_eq_true hc1; have h9 := hI1.ib; have h7 := hI1.len; (try simp only [inR]); (try simp only [List.length_set]); omega)) hR
    ·
      refine rg trivial ?_
      exact congrArg (C31 x0 x1) hR
  exact FnM.go 19 Try.func31 (by kernel_rfl) (by kernel_rfl) (A31 x0 x1) (by kernel_rfl) (aux _ rfl)
def k31 (d : Nat) (ids : List Nat) (x0 : List (List Int)) (x1 : Int) : Cl := (hresM d ids (C31 x0 x1 (markIntSS x0 x1)), k2 (ok_laws_markIntSS x0 x1))
theorem heldIntS_bd (l : List Int) (k : Int) : heldIntS l k = -1 ∨ heldIntS l k = k + l.length := by
  unfold heldIntS
  exact loopN_to (fun i (v : Int) => v = k + i) (fun (r : Int) => r = -1 ∨ r = k + l.length) (by simp) (fun i v next hi hv hn => cond_both (p := fun (r : Int) => r = -1 ∨ r = k + l.length) (fun _ => .inl rfl) (fun _ => hn _ (by omega))) (fun v hv => .inr hv)

def C32 (R : Int) : LV × List (Nat × BC) := (.int .i64 R, [])
def heldIntSS (x0 : List (List Int)) (x1 : Int) : Int := loopN (fun i1 (v1 : Int) next => bif (decide ((heldIntS (x0.getD i1 default) v1) < 0)) then (-1) else (next (heldIntS (x0.getD i1 default) v1))) (fun (v1 : Int) => v1) x0.length 0 x1
def D32b1 (x0 : List (List Int)) (x1 : Int) (i1 : Nat) (v1 : Int) : Dl := ⟨[(5, .int .i64 ((i1 : Nat) : Int)), (1, .int .i64 v1)], []⟩
def A32b1 (x0 : List (List Int)) (x1 : Int) (i1 : Nat) (v1 : Int) : Ann := r0 1 [0, 1, 4, 5, 9] [] (cn (decide (((i1 : Nat) : Int) < ((x0.length : Nat) : Int))) (.reg 2 [] [(5, k67 (x0.getD i1 default) v1)] [0, 1, 4, 5, 19] [] [] [pf (0 ≤ (((i1 : Nat) : Int) : Int) ∧ (((i1 : Nat) : Int) : Int) < ((x0.length : Nat) : Int))] [] [0, 4] (cn (decide ((heldIntS (x0.getD i1 default) v1) < 0)) (r0 1 [0, 1, 4, 5] [] (rt [] (C32 (-1)))) (r1 1 [0, 1, 4, 5] [] [pf (inR .i64 (((i1 : Nat) : Int) + 1))] [0] (.next 0 [] (D32b1 x0 x1 (i1 + 1) (heldIntS (x0.getD i1 default) v1)))))) (r0 1 [4] [] (rt [] (C32 v1))))
def A32 (x0 : List (List Int)) (x1 : Int) : Ann := r0 1 [0, 1, 4] [] (r0 1 [0, 1, 4, 5] [] (lp (D32b1 x0 x1) [] [] [] (D32b1 x0 x1 0 x1) (A32b1 x0 x1)))
theorem ok_laws_heldIntSS (x0 : List (List Int)) (x1 : Int) (hx : x0.length ≤ 1000 ∧ ∀ y ∈ x0, y.length ≤ 1000) (hk : 0 ≤ x1 ∧ x1 ≤ 1000) : FnT Try.prog 32 [.ro false 1 x0.length (rowOf (cSl false 1 (cInt .i64)) x0), .int .i64 x1] (C32 (heldIntSS x0 x1)) := by
  have aux : ∀ R, heldIntSS x0 x1 = R → slim (C32 R) (A32 x0 x1) [] := by
    intro R hR
    refine rg trivial ?_
    refine rg trivial ?_
    revert hR; refine lN (fun i v => 0 ≤ v ∧ v ≤ 1000 + 1000 * i) (by trivial) rfl fun i1 v1 F1 hn1 hI1 hR hK1 => ?_
    refine rg trivial ?_
    refine ⟨fun hc1 => ?_, fun hc1 => ?_⟩
    · have hii1 : i1 < x0.length := by have := of_decide_eq_true hc1; omega
      replace hR := loopN_step hR hii1
      refine rg ⟨by (intros; omega), ⟨by (have h9 := row_le hx.2 i1; omega), by (intros; omega)⟩, trivial⟩ ?_
      revert hR; refine cd (fun hc2 hR => ?_) fun hc2 hR => ?_
      ·
        refine rg trivial ?_
        exact congrArg C32 hR
      ·
        refine rg ⟨by ( intros; simp only [inR]; omega), trivial⟩ ?_
        exact hK1 (heldIntS (x0.getD i1 default) v1) hii1 (by (have h9 := row_le hx.2 i1; have h8 := heldIntS_bd (x0.getD i1 default) v1; simp only [decide_eq_false_iff_not] at hc2; omega)) hR
    · obtain rfl : i1 = x0.length := by have := of_decide_eq_false hc1; omega
      replace hR := loopN_end hR (Nat.lt_irrefl _)
      refine rg trivial ?_
      exact congrArg C32 hR
  exact Fn.go 21 Try.func32 (by kernel_rfl) (by kernel_rfl) (by simp [C32, Frs, FrsL]) (A32 x0 x1) (by kernel_rfl) (aux _ rfl)
def k32 (x0 : List (List Int)) (x1 : Int) : Cl := (hres (C32 (heldIntSS x0 x1)), k2 (ok_laws_heldIntSS x0 x1))
end Go.Proofs.Ytkkijpibajigfaa
