import Derived.Test.YtkkijpibajigfabDoorM92
set_option maxHeartbeats 4000000
set_option linter.unusedSimpArgs false
set_option linter.unusedVariables false
namespace Go.Proofs.YtkkijpibajigfabDoor
open Go Go.Lite Go.Proofs
def C13 (R : Int) : LV × List (Nat × BC) := (.int .i64 R, [])
def heldEventS (x0 : List Event) (x1 : Int) : Int := loopN (fun i1 (v1 : Int) next => bif (!decide (((x0.getD i1 default).kind) = v1)) then (-1) else (bif (!decide (((x0.getD i1 default).year) = (v1 + 1))) then (-1) else (bif (!(((x0.getD i1 default).name) == (markText ((v1 + 1) + 1)))) then (-1) else (bif (!decide (((x0.getD i1 default).sex) = (((v1 + 1) + 1) + 1))) then (-1) else (bif (!decide (((x0.getD i1 default).a) = ((((v1 + 1) + 1) + 1) + 1))) then (-1) else (bif (!decide (((x0.getD i1 default).b) = (((((v1 + 1) + 1) + 1) + 1) + 1))) then (-1) else (next ((((((v1 + 1) + 1) + 1) + 1) + 1) + 1)))))))) (fun (v1 : Int) => v1) x0.length 0 x1
def D13b1 (x0 : List Event) (x1 : Int) (i1 : Nat) (v1 : Int) : Dl := ⟨[(5, .int .i64 ((i1 : Nat) : Int)), (1, .int .i64 v1)], []⟩
def A13b1 (x0 : List Event) (x1 : Int) (i1 : Nat) (v1 : Int) : Ann := r0 1 [0, 1, 4, 5, 9] [] (cn (decide (((i1 : Nat) : Int) < ((x0.length : Nat) : Int))) (r1 1 [0, 1, 4, 5, 18] [] [pf (0 ≤ (((i1 : Nat) : Int) : Int) ∧ (((i1 : Nat) : Int) : Int) < ((x0.length : Nat) : Int))] [0] (cn (!decide (((x0.getD i1 default).kind) = v1)) (r0 1 [0, 1, 4, 5] [] (rt [] (C13 (-1)))) (r1 1 [0, 1, 4, 5] [] [pf (inR .i64 (v1 + 1))] [0] (r1 1 [0, 1, 4, 5, 27] [] [pf (0 ≤ (((i1 : Nat) : Int) : Int) ∧ (((i1 : Nat) : Int) : Int) < ((x0.length : Nat) : Int))] [0] (cn (!decide (((x0.getD i1 default).year) = (v1 + 1))) (r0 1 [0, 1, 4, 5] [] (rt [] (C13 (-1)))) (r1 1 [0, 1, 4, 5] [] [pf (inR .i64 ((v1 + 1) + 1))] [0] (.reg 1 [] [(6, k30 ((v1 + 1) + 1))] [0, 1, 4, 5, 37] [] [] [pf (0 ≤ (((i1 : Nat) : Int) : Int) ∧ (((i1 : Nat) : Int) : Int) < ((x0.length : Nat) : Int))] [] [0, 4] (cn (!(((x0.getD i1 default).name) == (markText ((v1 + 1) + 1)))) (r0 1 [0, 1, 4, 5] [] (rt [] (C13 (-1)))) (r1 1 [0, 1, 4, 5] [] [pf (inR .i64 (((v1 + 1) + 1) + 1))] [0] (r1 1 [0, 1, 4, 5, 46] [] [pf (0 ≤ (((i1 : Nat) : Int) : Int) ∧ (((i1 : Nat) : Int) : Int) < ((x0.length : Nat) : Int))] [0] (cn (!decide (((x0.getD i1 default).sex) = (((v1 + 1) + 1) + 1))) (r0 1 [0, 1, 4, 5] [] (rt [] (C13 (-1)))) (r1 1 [0, 1, 4, 5] [] [pf (inR .i64 ((((v1 + 1) + 1) + 1) + 1))] [0] (r1 1 [0, 1, 4, 5, 55] [] [pf (0 ≤ (((i1 : Nat) : Int) : Int) ∧ (((i1 : Nat) : Int) : Int) < ((x0.length : Nat) : Int))] [0] (cn (!decide (((x0.getD i1 default).a) = ((((v1 + 1) + 1) + 1) + 1))) (r0 1 [0, 1, 4, 5] [] (rt [] (C13 (-1)))) (r1 1 [0, 1, 4, 5] [] [pf (inR .i64 (((((v1 + 1) + 1) + 1) + 1) + 1))] [0] (r1 1 [0, 1, 4, 5, 64] [] [pf (0 ≤ (((i1 : Nat) : Int) : Int) ∧ (((i1 : Nat) : Int) : Int) < ((x0.length : Nat) : Int))] [0] (cn (!decide (((x0.getD i1 default).b) = (((((v1 + 1) + 1) + 1) + 1) + 1))) (r0 1 [0, 1, 4, 5] [] (rt [] (C13 (-1)))) (r1 1 [0, 1, 4, 5] [] [pf (inR .i64 ((((((v1 + 1) + 1) + 1) + 1) + 1) + 1))] [0] (r1 1 [0, 1, 4, 5] [] [pf (inR .i64 (((i1 : Nat) : Int) + 1))] [0] (.next 0 [] (D13b1 x0 x1 (i1 + 1) ((((((v1 + 1) + 1) + 1) + 1) + 1) + 1)))))))))))))))))))))) (r0 1 [4] [] (rt [] (C13 v1))))
def A13 (x0 : List Event) (x1 : Int) : Ann := r0 1 [0, 1, 4] [] (r0 1 [0, 1, 4, 5] [] (lp (D13b1 x0 x1) [] [] [] (D13b1 x0 x1 0 x1) (A13b1 x0 x1)))
theorem ok_laws_heldEventS (x0 : List Event) (x1 : Int) (hx : x0.length ≤ 1048576) (hk : 0 ≤ x1 ∧ x1 ≤ 30000000) : FnT Tryd.prog 13 [.ro false 6 x0.length (rowOf (cEvent false) x0), .int .i64 x1] (C13 (heldEventS x0 x1)) := by
  have aux : ∀ R, heldEventS x0 x1 = R → slim (C13 R) (A13 x0 x1) [] := by
    intro R hR
    refine rg trivial ?_
    refine rg trivial ?_
    revert hR; refine lN (fun i v => v = x1 + 6 * i) (by (intros; omega)) rfl fun i1 v1 F1 hn1 hI1 hR hK1 => ?_
    refine rg trivial ?_
    refine ⟨fun hc1 => ?_, fun hc1 => ?_⟩
    · have hii1 : i1 < x0.length := by have := of_decide_eq_true hc1; omega
      replace hR := loopN_step hR hii1
      refine rg ⟨by (intros; omega), trivial⟩ ?_
      revert hR; refine cd (fun hc2 hR => ?_) fun hc2 hR => ?_
      ·
        refine rg trivial ?_
        exact congrArg C13 hR
      ·
        refine rg ⟨by ( intros; simp only [inR]; omega), trivial⟩ ?_
        refine rg ⟨by (intros; omega), trivial⟩ ?_
        revert hR; refine cd (fun hc3 hR => ?_) fun hc3 hR => ?_
        ·
          refine rg trivial ?_
          exact congrArg C13 hR
        ·
          refine rg ⟨by ( intros; simp only [inR]; omega), trivial⟩ ?_
          refine rg ⟨by (intros; omega), by (intros; omega), trivial⟩ ?_
          revert hR; refine cd (fun hc4 hR => ?_) fun hc4 hR => ?_
          ·
            refine rg trivial ?_
            exact congrArg C13 hR
          ·
            refine rg ⟨by ( intros; simp only [inR]; omega), trivial⟩ ?_
            refine rg ⟨by (intros; omega), trivial⟩ ?_
            revert hR; refine cd (fun hc5 hR => ?_) fun hc5 hR => ?_
            ·
              refine rg trivial ?_
              exact congrArg C13 hR
            ·
              refine rg ⟨by ( intros; simp only [inR]; omega), trivial⟩ ?_
              refine rg ⟨by (intros; omega), trivial⟩ ?_
              revert hR; refine cd (fun hc6 hR => ?_) fun hc6 hR => ?_
              ·
                refine rg trivial ?_
                exact congrArg C13 hR
              ·
                refine rg ⟨by ( intros; simp only [inR]; omega), trivial⟩ ?_
                refine rg ⟨by (intros; omega), trivial⟩ ?_
                revert hR; refine cd (fun hc7 hR => ?_) fun hc7 hR => ?_
                ·
                  refine rg trivial ?_
                  exact congrArg C13 hR
                ·
                  refine rg ⟨by ( intros; simp only [inR]; omega), trivial⟩ ?_
                  refine rg ⟨by ( intros; simp only [inR]; omega), trivial⟩ ?_
                  exact hK1 ((((((v1 + 1) + 1) + 1) + 1) + 1) + 1) hii1 (by (intros; omega)) hR
    · obtain rfl : i1 = x0.length := by have := of_decide_eq_false hc1; omega
      replace hR := loopN_end hR (Nat.lt_irrefl _)
      refine rg trivial ?_
      exact congrArg C13 hR
  exact Fn.go 68 Tryd.func13 (by kernel_rfl) (by kernel_rfl) (by simp [C13, Frs, FrsL]) (A13 x0 x1) (by kernel_rfl) (aux _ rfl)
def k13 (x0 : List Event) (x1 : Int) : Cl := (hres (C13 (heldEventS x0 x1)), k2 (ok_laws_heldEventS x0 x1))
theorem markEventS_get (l : List Event) (k : Int) : (markEventS l k).2.length = l.length ∧ ∀ i : Nat, i < l.length → (markEventS l k).2.getD i default = ⟨k + 6 * i, k + 6 * i + 1, markText (k + 6 * i + 2), k + 6 * i + 3, k + 6 * i + 4, k + 6 * i + 5⟩ := by
  unfold markEventS
  refine loopN_to (fun i (v : List Event × Int) => v.1.length = l.length ∧ v.2 = k + 6 * i ∧ ∀ j : Nat, j < i → v.1.getD j default = ⟨k + 6 * j, k + 6 * j + 1, markText (k + 6 * j + 2), k + 6 * j + 3, k + 6 * j + 4, k + 6 * j + 5⟩)
    (fun (r : Int × List Event) => r.2.length = l.length ∧ ∀ i : Nat, i < l.length → r.2.getD i default = ⟨k + 6 * i, k + 6 * i + 1, markText (k + 6 * i + 2), k + 6 * i + 3, k + 6 * i + 4, k + 6 * i + 5⟩) ⟨rfl, by simp, fun j hj => absurd hj (Nat.not_lt_zero _)⟩ (fun i v next hi hv hn => hn _ ⟨by simp [hv.1], by rw [hv.2.1]; simp only; omega, fun j hj => ?_⟩) (fun v hv => ⟨hv.1, hv.2.2⟩)
  rw [getD_set]
  split
  · rename_i e
    have e2 : k + 6 * (i : Int) + 1 + 1 = k + 6 * i + 2 := by omega
    rw [e.1, hv.2.1, Event.mk.injEq, e2]
    exact ⟨rfl, by omega, rfl, by omega, by omega, by omega⟩
  · rename_i e; exact hv.2.2 j (by have := hv.1; omega)
theorem markEventS_val (l : List Event) (k : Int) : (markEventS l k).1 = k + 6 * l.length := by
  unfold markEventS
  exact loopN_to (fun i (v : List Event × Int) => v.2 = k + 6 * i) (fun (r : Int × List Event) => r.1 = k + 6 * l.length) (by simp) (fun i v next hi hv hn => hn _ (by rw [hv]; simp only; omega)) (fun v hv => hv)
theorem held_events (l : List Event) (k : Int) : heldEventS (markEventS l k).2 k = (markEventS l k).1 := by
  rw [markEventS_val]
  obtain ⟨h1, h2⟩ := markEventS_get l k
  unfold heldEventS
  rw [h1]
  refine loopN_to (fun i (v : Int) => v = k + 6 * i) (fun (r : Int) => r = k + 6 * l.length) (by simp) (fun i v next hi hv hn => ?_) (fun v hv => hv)
  subst hv
  rw [h2 i hi]
  have e2 : k + 6 * (i : Int) + 1 + 1 = k + 6 * i + 2 := by omega
  have e3 : k + 6 * (i : Int) + 2 + 1 = k + 6 * i + 3 := by omega
  have e4 : k + 6 * (i : Int) + 3 + 1 = k + 6 * i + 4 := by omega
  have e5 : k + 6 * (i : Int) + 4 + 1 = k + 6 * i + 5 := by omega
  simp only [e2, e3, e4, e5, decide_true, Bool.not_true, cond_false, BEq.rfl]
  exact hn _ (by omega)
end Go.Proofs.YtkkijpibajigfabDoor
