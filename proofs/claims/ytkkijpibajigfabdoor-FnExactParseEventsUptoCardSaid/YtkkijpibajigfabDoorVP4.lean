import Derived.Test.YtkkijpibajigfabDoorVP3
set_option maxHeartbeats 4000000
set_option linter.unusedSimpArgs false
set_option linter.unusedVariables false
namespace Go.Proofs.YtkkijpibajigfabDoor
open Go Go.Lite Go.Proofs
def C11 (R : (List Event) × Bool) : LV × List (Nat × BC) := (.tup [.own 0, .bool R.2], [(0, .arr 6 R.1.length (rowOf (cEvent true) R.1))])
def implParEv (x0 : List UInt8) : (List Event) × Bool := bif ((!((textLines x0).2)) || (decide (200 < ((((textLines x0).1).length : Nat) : Int)))) then (([] : List Event), false) else (loopN (fun i1 (v1 : (List Event) × (List Person) × (List Union)) next => bif (!((readEv (Family.mk v1.2.1 v1.2.2) (((textLines x0).1).getD i1 default)).2.1)) then (([] : List Event), false) else (next ((v1.1 ++ [((readEv (Family.mk v1.2.1 v1.2.2) (((textLines x0).1).getD i1 default)).1)]), (readEv (Family.mk v1.2.1 v1.2.2) (((textLines x0).1).getD i1 default)).2.2.1, (readEv (Family.mk v1.2.1 v1.2.2) (((textLines x0).1).getD i1 default)).2.2.2))) (fun (v1 : (List Event) × (List Person) × (List Union)) => bif ((!((implBuild v1.1).2)) || (!((implFmtEv v1.1) == x0))) then (([] : List Event), false) else (v1.1, true)) (((textLines x0).1).length) 0 (([] : List Event), ([] : List Person), ([] : List Union)))
def D11b1 (x0 : List UInt8) (i1 : Nat) (v1 : (List Event) × (List Person) × (List Union)) : Dl := ⟨[(28, .int .i64 ((i1 : Nat) : Int)), (7, .own 20007)], [(20007, .arr 6 v1.1.length (rowOf (cEvent true) v1.1)), (30600, .arr 6 v1.2.1.length (rowOf (cPerson true) v1.2.1)), (30601, .arr 4 v1.2.2.length (rowOf (cUnion true) v1.2.2)), (6, .var [.own 30600, .own 30601])]⟩
def A11b1 (x0 : List UInt8) (i1 : Nat) (v1 : (List Event) × (List Person) × (List Union)) : Ann := r0 1 [0, 2, 3, 6, 7, 26, 27, 28, 29] [6, 1016, 20007, 30600, 30601] (cn (decide (((i1 : Nat) : Int) < ((((textLines x0).1).length : Nat) : Int))) (.reg 2 [] [(1001, k29 34 [6, 30600, 30601] (Family.mk v1.2.1 v1.2.2) (((textLines x0).1).getD i1 default))] [0, 2, 3, 6, 7, 10, 11, 26, 27, 28] [6, 10, 1016, 1034, 2034, 20007] [] [pf (0 ≤ (((i1 : Nat) : Int) : Int) ∧ (((i1 : Nat) : Int) : Int) < ((((textLines x0).1).length : Nat) : Int))] [] [0, 4] (r0 1 [0, 2, 3, 6, 7, 10, 26, 27, 28, 38] [6, 10, 1016, 1034, 2034, 20007] (cn (!((readEv (Family.mk v1.2.1 v1.2.2) (((textLines x0).1).getD i1 default)).2.1)) (r0 1 [0, 2, 3, 6, 7, 10, 26, 27, 28] [6, 10, 1016, 1034, 2034, 20007] (rt [(0, none)] (C11 (([] : List Event), false)))) (.reg 1 [] [(2, bsC 41 (cEvent true) ([((readEv (Family.mk v1.2.1 v1.2.2) (((textLines x0).1).getD i1 default)).1)] : List Event)), (3, ap1 42 (cEvent true) 56 v1.1 ((readEv (Family.mk v1.2.1 v1.2.2) (((textLines x0).1).getD i1 default)).1))] [0, 2, 3, 6, 7, 26, 27, 28] [6, 42, 1016, 1034, 2034] [] [] [] [0, 4] (r1 1 [0, 2, 3, 6, 7, 26, 27, 28] [6, 42, 1016, 1034, 2034] [pf (inR .i64 (((i1 : Nat) : Int) + 1))] [0] (.next 0 [(20007, some 42), (30600, some 1034), (30601, some 2034)] (D11b1 x0 (i1 + 1) ((v1.1 ++ [((readEv (Family.mk v1.2.1 v1.2.2) (((textLines x0).1).getD i1 default)).1)]), (readEv (Family.mk v1.2.1 v1.2.2) (((textLines x0).1).getD i1 default)).2.2.1, (readEv (Family.mk v1.2.1 v1.2.2) (((textLines x0).1).getD i1 default)).2.2.2)))))))) (.reg 2 [] [(1, k19 v1.1), (1004, cg (!(!((implBuild v1.1).2))) (k8 v1.1))] [2, 3, 7, 56] [20007] [!(!((implBuild v1.1).2)), !((implBuild v1.1).2)] [] [] [0, 1, 4, 1, 1, 6] (cn ((!((implBuild v1.1).2)) || (!((implFmtEv v1.1) == x0))) (r0 1 [2, 3, 7] [20007] (rt [(0, none)] (C11 (([] : List Event), false)))) (r0 1 [2, 3] [20007] (rt [(0, some 20007)] (C11 (v1.1, true)))))))
def A11 (x0 : List UInt8) : Ann := .reg 2 [] [(1001, k28 x0)] [0, 2, 3, 4, 5] [1016] [] [] [] [0] (.reg 1 [] [] [0, 2, 3, 4, 25] [1016] [!(!((textLines x0).2)), !((textLines x0).2)] [] [] [1, 1, 6] (cn ((!((textLines x0).2)) || (decide (200 < ((((textLines x0).1).length : Nat) : Int)))) (r0 1 [0, 2, 3, 4] [1016] (rt [(0, none)] (C11 (([] : List Event), false)))) (r0 2 [0, 2, 3, 4, 6, 7] [6, 1016] (r0 1 [0, 2, 3, 6, 7, 26, 27, 28] [6, 1016] (lp (D11b1 x0) [] [] [(20007, none), (30600, none), (30601, none)] (D11b1 x0 0 (([] : List Event), ([] : List Person), ([] : List Union))) (A11b1 x0))))))
theorem ok_impl_ParseEvents (x0 : List UInt8) (h : x0.length ≤ 1048576) : FnT Tryd.prog 11 [.str x0] (C11 (implParEv x0)) := by
  have aux : ∀ R, implParEv x0 = R → slim (C11 R) (A11 x0) [] := by
    intro R hR
    refine rg ⟨by with_reducible assumption, trivial⟩ ?_
    refine rg trivial ?_
    revert hR; refine cd (fun hc1 hR => ?_) fun hc1 hR => ?_
    ·
      refine rg trivial ?_
      exact congrArg C11 hR
    ·
      refine rg trivial ?_
      refine rg trivial ?_
      revert hR; refine lN (fun i v => (v.2.1 : List Person).length ≤ i ∧ (v.1 : List Event).length ≤ i ∧ ∀ e ∈ v.1, e.name.length ≤ 1048576) (by (exact ⟨Nat.zero_le _, Nat.zero_le _, fun e he => absurd he List.not_mem_nil⟩)) rfl fun i1 v1 F1 hn1 hI1 hR hK1 => ?_
      refine rg trivial ?_
      refine ⟨fun hc2 => ?_, fun hc2 => ?_⟩
      · have hii1 : i1 < ((textLines x0).1).length := by have := of_decide_eq_true hc2; omega
        replace hR := loopN_step hR hii1
        refine rg ⟨by (intros; omega), ⟨by ((try clear hR hK1); intros; (try simp only [decide_eq_true_eq, decide_eq_false_iff_not, Bool.or_eq_true, Bool.and_eq_true, or_f_iff, not_f_iff, not_t_iff, Bool.not_eq_true', inR] at *); (repeat' apply And.intro) <;> (intros; omega)), by (have h9 := textLines_len x0; have h8 := textLines_mem x0 i1; omega)⟩, trivial⟩ ?_
        refine rg trivial ?_
        revert hR; refine cd (fun hc3 hR => ?_) fun hc3 hR => ?_
        ·
          refine rg trivial ?_
          exact congrArg C11 hR
        ·
          refine rg ⟨trivial, by (have h9 := textLines_len x0; have h8 := textLines_mem x0 i1; omega), trivial⟩ ?_
          refine rg ⟨by ((try clear hR hK1); intros; (try simp only [decide_eq_true_eq, decide_eq_false_iff_not, Bool.or_eq_true, Bool.and_eq_true, or_f_iff, not_f_iff, not_t_iff, Bool.not_eq_true', inR] at *); (repeat' apply And.intro) <;> (intros; omega)), trivial⟩ ?_
          exact hK1 ((v1.1 ++ [((readEv (Family.mk v1.2.1 v1.2.2) (((textLines x0).1).getD i1 default)).1)]), (readEv (Family.mk v1.2.1 v1.2.2) (((textLines x0).1).getD i1 default)).2.2.1, (readEv (Family.mk v1.2.1 v1.2.2) (((textLines x0).1).getD i1 default)).2.2.2) hii1 (by (dsimp only; refine ⟨Nat.le_trans (readEv_len _ _) (Nat.succ_le_succ hI1.1), (by simp only [List.length_append, List.length_cons, List.length_nil]; omega), fun e he => ?_⟩; rcases List.mem_append.1 he with he | he; exact hI1.2.2 e he; rw [List.mem_singleton] at he; rw [he]; exact Nat.le_trans (readEv_name _ _) (Nat.le_trans (textLines_mem x0 i1) h))) hR
      · obtain rfl : i1 = ((textLines x0).1).length := by have := of_decide_eq_false hc2; omega
        replace hR := loopN_end hR (Nat.lt_irrefl _)
        refine rg ⟨⟨by ((try clear hR hK1); intros; (try simp only [decide_eq_true_eq, decide_eq_false_iff_not, Bool.or_eq_true, Bool.and_eq_true, or_f_iff, not_f_iff, not_t_iff, Bool.not_eq_true', inR] at *); (repeat' apply And.intro) <;> (intros; omega)), by (exact hI1.2.2)⟩, fun hg0 => ⟨by ((try clear hR hK1); intros; (try simp only [decide_eq_true_eq, decide_eq_false_iff_not, Bool.or_eq_true, Bool.and_eq_true, or_f_iff, not_f_iff, not_t_iff, Bool.not_eq_true', inR] at *); (repeat' apply And.intro) <;> (intros; omega)), by (exact hI1.2.2)⟩, trivial⟩ ?_
        revert hR; refine cd (fun hc4 hR => ?_) fun hc4 hR => ?_
        ·
          refine rg trivial ?_
          exact congrArg C11 hR
        ·
          refine rg trivial ?_
          exact congrArg C11 hR
  exact Fn.go 58 Tryd.func11 (by kernel_rfl) (by kernel_rfl) (by simp [C11, Frs, FrsL, FrsB, rowOf, cInt, cBool, cStr, cSl, FrsL_app, cPerson, cUnion, cFamily, cEvent]) (A11 x0) (by kernel_rfl) (aux _ rfl)
def k11 (x0 : List UInt8) : Cl := (hres (C11 (implParEv x0)), k1 (ok_impl_ParseEvents x0))
end Go.Proofs.YtkkijpibajigfabDoor
