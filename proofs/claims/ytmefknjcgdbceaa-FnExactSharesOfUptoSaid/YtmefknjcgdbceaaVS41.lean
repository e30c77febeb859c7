import Derived.Test.YtmefknjcgdbceaaM163
set_option maxHeartbeats 4000000
set_option linter.unusedSimpArgs false
set_option linter.unusedVariables false
namespace Go.Proofs.Ytmefknjcgdbceaa
open Go Go.Lite Go.Proofs
def C29 (R : Bool) : LV × List (Nat × BC) := (.bool R, [])
def eqShare (x0 : Share) (x1 : Share) : Bool := bif (!decide (x0.person = x1.person)) then false else (bif (!decide (x0.num = x1.num)) then false else (bif (!decide (x0.den = x1.den)) then false else true))
def A29 (x0 : Share) (x1 : Share) : Ann := r0 1 [2, 3, 4] [2, 3] (r0 1 [2, 3, 4, 9] [2, 3] (cn (!decide (x0.person = x1.person)) (r0 1 [2, 3, 4] [2, 3] (rt [] (C29 false))) (r0 1 [2, 3, 4, 14] [2, 3] (cn (!decide (x0.num = x1.num)) (r0 1 [2, 3, 4] [2, 3] (rt [] (C29 false))) (r0 1 [4, 19] [] (cn (!decide (x0.den = x1.den)) (r0 1 [4] [] (rt [] (C29 false))) (r0 1 [4] [] (rt [] (C29 true)))))))))
theorem eqShare_self (x : Share) : eqShare x x = true := by simp [eqShare]
theorem ok_laws_eqShare (x0 : Share) (x1 : Share) : FnT Try.prog 29 [.agg (cShare false x0), .agg (cShare false x1)] (C29 (eqShare x0 x1)) := by
  have aux : ∀ R, eqShare x0 x1 = R → slim (C29 R) (A29 x0 x1) [] := by
    intro R hR
    refine rg trivial ?_
    refine rg trivial ?_
    revert hR; refine cd (fun hc1 hR => ?_) fun hc1 hR => ?_
    ·
      refine rg trivial ?_
      exact congrArg C29 hR
    ·
      refine rg trivial ?_
      revert hR; refine cd (fun hc2 hR => ?_) fun hc2 hR => ?_
      ·
        refine rg trivial ?_
        exact congrArg C29 hR
      ·
        refine rg trivial ?_
        revert hR; refine cd (fun hc3 hR => ?_) fun hc3 hR => ?_
        ·
          refine rg trivial ?_
          exact congrArg C29 hR
        ·
          refine rg trivial ?_
          exact congrArg C29 hR
  exact Fn.go 20 Try.func29 (by kernel_rfl) (by kernel_rfl) (by simp [C29, Frs, FrsL]) (A29 x0 x1) (by kernel_rfl) (aux _ rfl)
def k29 (x0 : Share) (x1 : Share) : Cl := (hres (C29 (eqShare x0 x1)), k0 (ok_laws_eqShare x0 x1))
def C8 (R : Bool) : LV × List (Nat × BC) := (.bool R, [])
def eqShareS (x0 : List Share) (x1 : List Share) : Bool := bif (!decide (((x0.length : Nat) : Int) = ((x1.length : Nat) : Int))) then false else (loopN (fun i1 (v1 : Unit) next => bif (!(eqShare (x0.getD i1 default) (x1.getD i1 default))) then false else (next ())) (fun (v1 : Unit) => true) x0.length 0 ())
def D8b1 (x0 : List Share) (x1 : List Share) (i1 : Nat) (v1 : Unit) : Dl := ⟨[(5, .int .i64 ((i1 : Nat) : Int))], []⟩
def A8b1 (x0 : List Share) (x1 : List Share) (i1 : Nat) (v1 : Unit) : Ann := r0 1 [0, 1, 4, 5, 14] [] (cn (decide (((i1 : Nat) : Int) < ((x0.length : Nat) : Int))) (.reg 1 [] [(8, k29 (x0.getD i1 default) (x1.getD i1 default))] [0, 1, 4, 5, 26] [] [] [pf (0 ≤ (((i1 : Nat) : Int) : Int) ∧ (((i1 : Nat) : Int) : Int) < ((x0.length : Nat) : Int)), pf (0 ≤ (((i1 : Nat) : Int) : Int) ∧ (((i1 : Nat) : Int) : Int) < ((x1.length : Nat) : Int))] [] [0, 4, 8] (cn (!(eqShare (x0.getD i1 default) (x1.getD i1 default))) (r0 1 [0, 1, 4, 5] [] (rt [] (C8 false))) (r1 1 [0, 1, 4, 5] [] [pf (inR .i64 (((i1 : Nat) : Int) + 1))] [0] (.next 0 [] (D8b1 x0 x1 (i1 + 1) ()))))) (r0 1 [4] [] (rt [] (C8 true))))
def A8 (x0 : List Share) (x1 : List Share) : Ann := r0 1 [0, 1, 4] [] (r0 1 [0, 1, 4, 10] [] (cn (!decide (((x0.length : Nat) : Int) = ((x1.length : Nat) : Int))) (r0 1 [0, 1, 4] [] (rt [] (C8 false))) (r0 1 [0, 1, 4, 5] [] (lp (D8b1 x0 x1) [] [] [] (D8b1 x0 x1 0 ()) (A8b1 x0 x1)))))
theorem eqShareS_self (x : List Share) : eqShareS x x = true := by
  simp only [eqShareS, decide_true, Bool.not_true, cond_false]
  exact loopN_inv (fun _ _ => True) (fun r => r = true) (fun i v next _ hn => by simp only [eqShare_self, Bool.not_true, cond_false]; exact hn _ trivial) (fun _ _ _ => rfl) _ _ _ trivial
theorem ok_laws_eqShareS (x0 : List Share) (x1 : List Share) (hx : x0.length ≤ 1048576) : FnT Try.prog 8 [.ro false 3 x0.length (rowOf (cShare false) x0), .ro false 3 x1.length (rowOf (cShare false) x1)] (C8 (eqShareS x0 x1)) := by
  have aux : ∀ R, eqShareS x0 x1 = R → slim (C8 R) (A8 x0 x1) [] := by
    intro R hR
    refine rg trivial ?_
    refine rg trivial ?_
    revert hR; refine cd (fun hc1 hR => ?_) fun hc1 hR => ?_
    ·
      refine rg trivial ?_
      exact congrArg C8 hR
    ·
      refine rg trivial ?_
      revert hR; refine lN (fun i v => True) (by trivial) rfl fun i1 v1 F1 hn1 hI1 hR hK1 => ?_
      refine rg trivial ?_
      refine ⟨fun hc2 => ?_, fun hc2 => ?_⟩
      · have hii1 : i1 < x0.length := by have := of_decide_eq_true hc2; omega
        replace hR := loopN_step hR hii1
        refine rg ⟨by (intros; omega), by ((try clear hR hK1); intros; (try simp only [decide_eq_true_eq, decide_eq_false_iff_not, Bool.or_eq_true, Bool.and_eq_true, or_f_iff, not_f_iff, not_t_iff, Bool.not_eq_true', inR] at *); (repeat' apply And.intro) <;> (intros; omega)), trivial, trivial⟩ ?_
        revert hR; refine cd (fun hc3 hR => ?_) fun hc3 hR => ?_
        ·
          refine rg trivial ?_
          exact congrArg C8 hR
        ·
          refine rg ⟨by ( intros; simp only [inR]; omega), trivial⟩ ?_
          exact hK1 () hii1 (by trivial) hR
      · obtain rfl : i1 = x0.length := by have := of_decide_eq_false hc2; omega
        replace hR := loopN_end hR (Nat.lt_irrefl _)
        refine rg trivial ?_
        exact congrArg C8 hR
  exact Fn.go 27 Try.func8 (by kernel_rfl) (by kernel_rfl) (by simp [C8, Frs, FrsL]) (A8 x0 x1) (by kernel_rfl) (aux _ rfl)
def k8 (x0 : List Share) (x1 : List Share) : Cl := (hres (C8 (eqShareS x0 x1)), k1 (ok_laws_eqShareS x0 x1))
def C11 (x0 : List Share) (x1 : Int) (R : Int × (List Share)) : LV × List (Nat × BC) := (.int .i64 R.1, [(900000, .arr 3 R.2.length (rowOf (cShare true) R.2))])
def markShareS (x0 : List Share) (x1 : Int) : Int × (List Share) := loopN (fun i1 (v1 : (List Share) × Int) next => next ((v1.1.set i1 (Share.mk v1.2 (v1.2 + 1) ((v1.2 + 1) + 1))), ((v1.2 + 1) + 1) + 1)) (fun (v1 : (List Share) × Int) => (v1.2, v1.1)) x0.length 0 (x0, x1)
def D11b1 (x0 : List Share) (x1 : Int) (i1 : Nat) (v1 : (List Share) × Int) : Dl := ⟨[(5, .int .i64 ((i1 : Nat) : Int)), (0, .own 900000), (1, .int .i64 v1.2)], [(900000, .arr 3 x0.length (rowOf (cShare true) v1.1))]⟩
def A11b1 (x0 : List Share) (x1 : Int) (i1 : Nat) (v1 : (List Share) × Int) : Ann := r0 1 [0, 1, 4, 5, 9] [900000] (cn (decide (((i1 : Nat) : Int) < ((x0.length : Nat) : Int))) (.reg 5 [] [(5, stP 900000 (cShare true) x0.length v1.1 v1.1 i1 0 [.int .i64 v1.2] (Share.mk v1.2 ((v1.1.getD i1 default).num) ((v1.1.getD i1 default).den)) (v1.1.getD i1 default) (.inr ⟨rfl, rfl⟩) rfl), (2005, stP 900000 (cShare true) x0.length v1.1 (v1.1.set i1 (Share.mk v1.2 ((v1.1.getD i1 default).num) ((v1.1.getD i1 default).den))) i1 1 [.int .i64 (v1.2 + 1)] (Share.mk v1.2 (v1.2 + 1) ((v1.1.getD i1 default).den)) (Share.mk v1.2 ((v1.1.getD i1 default).num) ((v1.1.getD i1 default).den)) (.inl rfl) rfl), (4005, stP 900000 (cShare true) x0.length v1.1 (v1.1.set i1 (Share.mk v1.2 (v1.2 + 1) ((v1.1.getD i1 default).den))) i1 2 [.int .i64 ((v1.2 + 1) + 1)] (Share.mk v1.2 (v1.2 + 1) ((v1.2 + 1) + 1)) (Share.mk v1.2 (v1.2 + 1) ((v1.1.getD i1 default).den)) (.inl rfl) rfl)] [0, 1, 4, 5] [900000] [] [pf (0 ≤ (((i1 : Nat) : Int) : Int) ∧ (((i1 : Nat) : Int) : Int) < ((x0.length : Nat) : Int)), pf (inR .i64 (v1.2 + 1)), pf (inR .i64 ((v1.2 + 1) + 1))] [] [0, 12, 4, 0, 16, 8, 0, 20] (r1 1 [0, 1, 4, 5] [900000] [pf (inR .i64 (((v1.2 + 1) + 1) + 1))] [0] (r1 1 [0, 1, 4, 5] [900000] [pf (inR .i64 (((i1 : Nat) : Int) + 1))] [0] (.next 0 [(900000, some 900000)] (D11b1 x0 x1 (i1 + 1) ((v1.1.set i1 (Share.mk v1.2 (v1.2 + 1) ((v1.2 + 1) + 1))), ((v1.2 + 1) + 1) + 1)))))) (r0 1 [4] [900000] (.co false 900000 v1.1.length (rowOf (cShare true) v1.1) [lnP (rowOf (cShare true) v1.1) x0.length v1.1.length] [] 0 (rt [(900000, some 900000)] (C11 x0 x1 (v1.2, v1.1))))))
def A11 (x0 : List Share) (x1 : Int) : Ann := r0 1 [0, 1, 4] [900000] (r0 1 [0, 1, 4, 5] [900000] (lp (D11b1 x0 x1) [] [] [(900000, some 900000)] (D11b1 x0 x1 0 (x0, x1)) (A11b1 x0 x1)))
theorem markShareS_get (l : List Share) (k : Int) : ((markShareS l k).2.length = l.length ∧ (markShareS l k).1 = k + 3 * l.length) ∧ ∀ i : Nat, i < l.length → (markShareS l k).2.getD i default = ⟨k + 3 * i, k + 3 * i + 1, k + 3 * i + 2⟩ := by
  unfold markShareS
  refine loopN_to (fun i (v : List Share × Int) => v.1.length = l.length ∧ v.2 = k + 3 * i ∧ ∀ j : Nat, j < i → v.1.getD j default = ⟨k + 3 * j, k + 3 * j + 1, k + 3 * j + 2⟩)
    (fun (r : Int × List Share) => (r.2.length = l.length ∧ r.1 = k + 3 * l.length) ∧ ∀ i : Nat, i < l.length → r.2.getD i default = ⟨k + 3 * i, k + 3 * i + 1, k + 3 * i + 2⟩) ⟨rfl, by simp, fun j hj => absurd hj (Nat.not_lt_zero _)⟩ (fun i v next hi hv hn => hn _ ⟨by simp [hv.1], by rw [hv.2.1]; simp only; omega, fun j hj => ?_⟩) (fun v hv => ⟨⟨hv.1, hv.2.1⟩, hv.2.2⟩)
  rw [getD_set]
  split
  · rename_i e
    rw [e.1, hv.2.1, Share.mk.injEq]
    exact ⟨by omega, by omega, by omega⟩
  · rename_i e; exact hv.2.2 j (by have := hv.1; omega)
theorem markShareS_val (l : List Share) (k : Int) : (markShareS l k).1 = k + 3 * l.length := (markShareS_get l k).1.2
theorem ok_laws_markShareS (x0 : List Share) (x1 : Int) (hx : x0.length ≤ 1048576) (hk : 0 ≤ x1 ∧ x1 ≤ 30000000) : FnMT Try.prog 11 [.own 900000, .int .i64 x1] [.arr 3 x0.length (rowOf (cShare true) x0)] (C11 x0 x1 (markShareS x0 x1)) := by
  have aux : ∀ R, markShareS x0 x1 = R → slim (C11 x0 x1 R) (A11 x0 x1) [] := by
    intro R hR
    refine rg trivial ?_
    refine rg trivial ?_
    revert hR; refine lN (fun i v => v.1.length = x0.length ∧ v.2 = x1 + 3 * i) (by ((try clear hR); intros; (try simp only [decide_eq_true_eq, decide_eq_false_iff_not, Bool.or_eq_true, Bool.and_eq_true, or_f_iff, not_f_iff, not_t_iff, Bool.not_eq_true', inR] at *); (repeat' apply And.intro) <;> (first | (intros; omega) | (simp_all [inR]; done)))) rfl fun i1 v1 F1 hn1 hI1 hR hK1 => ?_
    refine rg trivial ?_
    refine ⟨fun hc1 => ?_, fun hc1 => ?_⟩
    · have hii1 : i1 < x0.length := by have := of_decide_eq_true hc1; omega
      replace hR := loopN_step hR hii1
      refine rg ⟨by (intros; omega), by ( intros; simp only [inR]; omega), by ( intros; simp only [inR]; omega), by (intros; omega), by (intros; omega), by (intros; omega), trivial⟩ ?_
      refine rg ⟨by ( intros; simp only [inR]; omega), trivial⟩ ?_
      refine rg ⟨by ( intros; simp only [inR]; omega), trivial⟩ ?_
      exact hK1 ((v1.1.set i1 (Share.mk v1.2 (v1.2 + 1) ((v1.2 + 1) + 1))), ((v1.2 + 1) + 1) + 1) hii1 (by (simp only [List.length_set]; omega)) hR
    · obtain rfl : i1 = x0.length := by have := of_decide_eq_false hc1; omega
      replace hR := loopN_end hR (Nat.lt_irrefl _)
      refine rg trivial ?_
      refine og (by (intros; omega)) ?_
      exact congrArg (C11 x0 x1) hR
  exact FnM.go 34 Try.func11 (by kernel_rfl) (by kernel_rfl) (A11 x0 x1) (by kernel_rfl) (aux _ rfl)
def k11 (d : Nat) (ids : List Nat) (x0 : List Share) (x1 : Int) : Cl := (hresM d ids (C11 x0 x1 (markShareS x0 x1)), k2 (ok_laws_markShareS x0 x1))
def C12 (R : Int) : LV × List (Nat × BC) := (.int .i64 R, [])
def heldShareS (x0 : List Share) (x1 : Int) : Int := loopN (fun i1 (v1 : Int) next => bif (!decide (((x0.getD i1 default).person) = v1)) then (-1) else (bif (!decide (((x0.getD i1 default).num) = (v1 + 1))) then (-1) else (bif (!decide (((x0.getD i1 default).den) = ((v1 + 1) + 1))) then (-1) else (next (((v1 + 1) + 1) + 1))))) (fun (v1 : Int) => v1) x0.length 0 x1
def D12b1 (x0 : List Share) (x1 : Int) (i1 : Nat) (v1 : Int) : Dl := ⟨[(5, .int .i64 ((i1 : Nat) : Int)), (1, .int .i64 v1)], []⟩
def A12b1 (x0 : List Share) (x1 : Int) (i1 : Nat) (v1 : Int) : Ann := r0 1 [0, 1, 4, 5, 9] [] (cn (decide (((i1 : Nat) : Int) < ((x0.length : Nat) : Int))) (r1 1 [0, 1, 4, 5, 18] [] [pf (0 ≤ (((i1 : Nat) : Int) : Int) ∧ (((i1 : Nat) : Int) : Int) < ((x0.length : Nat) : Int))] [0] (cn (!decide (((x0.getD i1 default).person) = v1)) (r0 1 [0, 1, 4, 5] [] (rt [] (C12 (-1)))) (r1 1 [0, 1, 4, 5] [] [pf (inR .i64 (v1 + 1))] [0] (r1 1 [0, 1, 4, 5, 27] [] [pf (0 ≤ (((i1 : Nat) : Int) : Int) ∧ (((i1 : Nat) : Int) : Int) < ((x0.length : Nat) : Int))] [0] (cn (!decide (((x0.getD i1 default).num) = (v1 + 1))) (r0 1 [0, 1, 4, 5] [] (rt [] (C12 (-1)))) (r1 1 [0, 1, 4, 5] [] [pf (inR .i64 ((v1 + 1) + 1))] [0] (r1 1 [0, 1, 4, 5, 36] [] [pf (0 ≤ (((i1 : Nat) : Int) : Int) ∧ (((i1 : Nat) : Int) : Int) < ((x0.length : Nat) : Int))] [0] (cn (!decide (((x0.getD i1 default).den) = ((v1 + 1) + 1))) (r0 1 [0, 1, 4, 5] [] (rt [] (C12 (-1)))) (r1 1 [0, 1, 4, 5] [] [pf (inR .i64 (((v1 + 1) + 1) + 1))] [0] (r1 1 [0, 1, 4, 5] [] [pf (inR .i64 (((i1 : Nat) : Int) + 1))] [0] (.next 0 [] (D12b1 x0 x1 (i1 + 1) (((v1 + 1) + 1) + 1))))))))))))) (r0 1 [4] [] (rt [] (C12 v1))))
def A12 (x0 : List Share) (x1 : Int) : Ann := r0 1 [0, 1, 4] [] (r0 1 [0, 1, 4, 5] [] (lp (D12b1 x0 x1) [] [] [] (D12b1 x0 x1 0 x1) (A12b1 x0 x1)))
theorem held_markShareS (l : List Share) (k : Int) : heldShareS (markShareS l k).2 k = k + 3 * l.length := by
  obtain ⟨⟨h1, _⟩, h2⟩ := markShareS_get l k
  unfold heldShareS
  rw [h1]
  refine loopN_to (fun i (v : Int) => v = k + 3 * i) (fun (r : Int) => r = k + 3 * l.length) (by simp) (fun i v next hi hv hn => ?_) (fun v hv => hv)
  subst hv
  rw [h2 i hi]
  have e2 : k + 3 * (i : Int) + 1 + 1 = k + 3 * i + 2 := by omega
  simp only [e2, decide_true, Bool.not_true, cond_false]
  exact hn _ (by omega)
theorem ok_laws_heldShareS (x0 : List Share) (x1 : Int) (hx : x0.length ≤ 1048576) (hk : 0 ≤ x1 ∧ x1 ≤ 30000000) : FnT Try.prog 12 [.ro false 3 x0.length (rowOf (cShare false) x0), .int .i64 x1] (C12 (heldShareS x0 x1)) := by
  have aux : ∀ R, heldShareS x0 x1 = R → slim (C12 R) (A12 x0 x1) [] := by
    intro R hR
    refine rg trivial ?_
    refine rg trivial ?_
    revert hR; refine lN (fun i v => v = x1 + 3 * i) (by (intros; omega)) rfl fun i1 v1 F1 hn1 hI1 hR hK1 => ?_
    refine rg trivial ?_
    refine ⟨fun hc1 => ?_, fun hc1 => ?_⟩
    · have hii1 : i1 < x0.length := by have := of_decide_eq_true hc1; omega
      replace hR := loopN_step hR hii1
      refine rg ⟨by (intros; omega), trivial⟩ ?_
      revert hR; refine cd (fun hc2 hR => ?_) fun hc2 hR => ?_
      ·
        refine rg trivial ?_
        exact congrArg C12 hR
      ·
        refine rg ⟨by ( intros; simp only [inR]; omega), trivial⟩ ?_
        refine rg ⟨by (intros; omega), trivial⟩ ?_
        revert hR; refine cd (fun hc3 hR => ?_) fun hc3 hR => ?_
        ·
          refine rg trivial ?_
          exact congrArg C12 hR
        ·
          refine rg ⟨by ( intros; simp only [inR]; omega), trivial⟩ ?_
          refine rg ⟨by (intros; omega), trivial⟩ ?_
          revert hR; refine cd (fun hc4 hR => ?_) fun hc4 hR => ?_
          ·
            refine rg trivial ?_
            exact congrArg C12 hR
          ·
            refine rg ⟨by ( intros; simp only [inR]; omega), trivial⟩ ?_
            refine rg ⟨by ( intros; simp only [inR]; omega), trivial⟩ ?_
            exact hK1 (((v1 + 1) + 1) + 1) hii1 (by (intros; omega)) hR
    · obtain rfl : i1 = x0.length := by have := of_decide_eq_false hc1; omega
      replace hR := loopN_end hR (Nat.lt_irrefl _)
      refine rg trivial ?_
      exact congrArg C12 hR
  exact Fn.go 40 Try.func12 (by kernel_rfl) (by kernel_rfl) (by simp [C12, Frs, FrsL]) (A12 x0 x1) (by kernel_rfl) (aux _ rfl)
def k12 (x0 : List Share) (x1 : Int) : Cl := (hres (C12 (heldShareS x0 x1)), k2 (ok_laws_heldShareS x0 x1))
end Go.Proofs.Ytmefknjcgdbceaa
