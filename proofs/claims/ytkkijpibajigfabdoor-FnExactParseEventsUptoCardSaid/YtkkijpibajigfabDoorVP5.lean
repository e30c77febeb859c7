import Derived.Test.YtkkijpibajigfabDoorVP4
set_option maxHeartbeats 4000000
set_option linter.unusedSimpArgs false
set_option linter.unusedVariables false
namespace Go.Proofs.YtkkijpibajigfabDoor
open Go Go.Lite Go.Proofs
def k27z_0_1 (x0 : Family) (x1 : List UInt8) : Cl := (hres (C27 (l11Line x0 x1)), k2 (P := FnT Tryd.prog 27 ([.agg (cFamily false x0), .str x1].modify 0 (nzA 1)) (C27 (l11Line x0 x1))) fun h0 h1 => (FnT.nz (ok_spec_l11Line x0 x1 h0 h1) 0 1))
def C10 (R : (List Event) × Bool) : LV × List (Nat × BC) := (.tup [.own 0, .bool R.2], [(0, .arr 6 R.1.length (rowOf (cEvent true) R.1))])
def specParEv (x0 : List UInt8) : (List Event) × Bool := bif (decide (201 < (((l1Split x0 10).length : Nat) : Int))) then (([] : List Event), false) else (loopN (fun i1 (v1 : (List Event) × (List Person)) next => bif (decide (((i1 : Nat) : Int) = ((((l1Split x0 10).length : Nat) : Int) - 1))) then (bif ((!((specBuild v1.1).2)) || (!((specFmtEv v1.1) == x0))) then (([] : List Event), false) else (v1.1, true)) else (bif (!((l11Line (Family.mk v1.2 ([] : List Union)) ((l1Split x0 10).getD i1 default)).2)) then (([] : List Event), false) else (bif (decide ((((l11Line (Family.mk v1.2 ([] : List Union)) ((l1Split x0 10).getD i1 default)).1).kind) = 1)) then (next ((v1.1 ++ [((l11Line (Family.mk v1.2 ([] : List Union)) ((l1Split x0 10).getD i1 default)).1)]), (v1.2 ++ [(Person.mk (((l11Line (Family.mk v1.2 ([] : List Union)) ((l1Split x0 10).getD i1 default)).1).name) 0 0 0 0 0)]))) else (next ((v1.1 ++ [((l11Line (Family.mk v1.2 ([] : List Union)) ((l1Split x0 10).getD i1 default)).1)]), v1.2))))) (fun (v1 : (List Event) × (List Person)) => bif ((!((specBuild v1.1).2)) || (!((specFmtEv v1.1) == x0))) then (([] : List Event), false) else (v1.1, true)) ((l1Split x0 10).length) 0 (([] : List Event), ([] : List Person)))
def D10b1 (x0 : List UInt8) (i1 : Nat) (v1 : (List Event) × (List Person)) : Dl := ⟨[(22, .int .i64 ((i1 : Nat) : Int)), (4, .own 20004)], [(20004, .arr 6 v1.1.length (rowOf (cEvent true) v1.1)), (30500, .arr 6 v1.2.length (rowOf (cPerson true) v1.2)), (5, .var [.own 30500, .nilS])]⟩
def A10b1 (x0 : List UInt8) (i1 : Nat) (v1 : (List Event) × (List Person)) : Ann := r0 1 [0, 2, 3, 4, 5, 6, 20, 21, 22, 23] [5, 1016, 20004, 30500] (cn (decide (((i1 : Nat) : Int) < (((l1Split x0 10).length : Nat) : Int))) (r1 1 [0, 2, 3, 4, 5, 6, 7, 8, 20, 21, 22] [5, 1016, 20004, 30500] [pf (0 ≤ (((i1 : Nat) : Int) : Int) ∧ (((i1 : Nat) : Int) : Int) < (((l1Split x0 10).length : Nat) : Int))] [0] (r1 1 [0, 2, 3, 4, 5, 6, 8, 20, 21, 22, 31] [5, 1016, 20004, 30500] [pf (inR .i64 ((((l1Split x0 10).length : Nat) : Int) - 1))] [0] (cn (decide (((i1 : Nat) : Int) = ((((l1Split x0 10).length : Nat) : Int) - 1))) (.reg 1 [] [(1, k15 v1.1)] [0, 2, 3, 4, 12] [20004] [] [] [] [0] (.reg 1 [] [(4, cg (!(!((specBuild v1.1).2))) (k6 v1.1))] [2, 3, 4, 68] [20004] [!(!((specBuild v1.1).2)), !((specBuild v1.1).2)] [] [] [1, 0, 1, 1, 6] (cn ((!((specBuild v1.1).2)) || (!((specFmtEv v1.1) == x0))) (r0 1 [2, 3, 4] [20004] (rt [(0, none)] (C10 (([] : List Event), false)))) (r0 1 [2, 3] [20004] (rt [(0, some 20004)] (C10 (v1.1, true))))))) (.reg 1 [] [(2, k27z_0_1 (Family.mk v1.2 ([] : List Union)) ((l1Split x0 10).getD i1 default))] [0, 2, 3, 4, 5, 6, 9, 10, 20, 21, 22] [5, 9, 1016, 20004, 30500] [] [] [] [0] (r0 1 [0, 2, 3, 4, 5, 6, 9, 20, 21, 22, 39] [5, 9, 1016, 20004, 30500] (cn (!((l11Line (Family.mk v1.2 ([] : List Union)) ((l1Split x0 10).getD i1 default)).2)) (r0 1 [0, 2, 3, 4, 5, 6, 9, 20, 21, 22] [5, 9, 1016, 20004, 30500] (rt [(0, none)] (C10 (([] : List Event), false)))) (r0 1 [0, 2, 3, 4, 5, 6, 9, 20, 21, 22, 42] [5, 9, 1016, 20004, 30500] (cn (decide ((((l11Line (Family.mk v1.2 ([] : List Union)) ((l1Split x0 10).getD i1 default)).1).kind) = 1)) (.reg 1 [] [(5, bsC 48 (cPerson true) ([(Person.mk (((l11Line (Family.mk v1.2 ([] : List Union)) ((l1Split x0 10).getD i1 default)).1).name) 0 0 0 0 0)] : List Person)), (6, ap1 49 (cPerson true) 56 v1.2 (Person.mk (((l11Line (Family.mk v1.2 ([] : List Union)) ((l1Split x0 10).getD i1 default)).1).name) 0 0 0 0 0))] [0, 2, 3, 4, 5, 6, 9, 20, 21, 22] [5, 9, 49, 1016, 20004] [] [] [] [0, 4] (.reg 1 [] [(2, bsC 53 (cEvent true) ([((l11Line (Family.mk v1.2 ([] : List Union)) ((l1Split x0 10).getD i1 default)).1)] : List Event)), (3, ap1 54 (cEvent true) 56 v1.1 ((l11Line (Family.mk v1.2 ([] : List Union)) ((l1Split x0 10).getD i1 default)).1))] [0, 2, 3, 4, 5, 6, 20, 21, 22] [5, 49, 54, 1016] [] [] [] [0, 4] (r1 1 [0, 2, 3, 4, 5, 6, 20, 21, 22] [5, 49, 54, 1016] [pf (inR .i64 (((i1 : Nat) : Int) + 1))] [0] (.next 0 [(20004, some 54), (30500, some 49)] (D10b1 x0 (i1 + 1) ((v1.1 ++ [((l11Line (Family.mk v1.2 ([] : List Union)) ((l1Split x0 10).getD i1 default)).1)]), (v1.2 ++ [(Person.mk (((l11Line (Family.mk v1.2 ([] : List Union)) ((l1Split x0 10).getD i1 default)).1).name) 0 0 0 0 0)]))))))) (.reg 1 [] [(2, bsC 53 (cEvent true) ([((l11Line (Family.mk v1.2 ([] : List Union)) ((l1Split x0 10).getD i1 default)).1)] : List Event)), (3, ap1 54 (cEvent true) 56 v1.1 ((l11Line (Family.mk v1.2 ([] : List Union)) ((l1Split x0 10).getD i1 default)).1))] [0, 2, 3, 4, 5, 6, 20, 21, 22] [5, 54, 1016, 30500] [] [] [] [0, 4] (r1 1 [0, 2, 3, 4, 5, 6, 20, 21, 22] [5, 54, 1016, 30500] [pf (inR .i64 (((i1 : Nat) : Int) + 1))] [0] (.next 0 [(20004, some 54), (30500, some 30500)] (D10b1 x0 (i1 + 1) ((v1.1 ++ [((l11Line (Family.mk v1.2 ([] : List Union)) ((l1Split x0 10).getD i1 default)).1)]), v1.2))))))))))))) (.reg 1 [] [(1, k15 v1.1)] [0, 2, 3, 4, 12] [20004] [] [] [] [0] (.reg 1 [] [(4, cg (!(!((specBuild v1.1).2))) (k6 v1.1))] [2, 3, 4, 68] [20004] [!(!((specBuild v1.1).2)), !((specBuild v1.1).2)] [] [] [1, 0, 1, 1, 6] (cn ((!((specBuild v1.1).2)) || (!((specFmtEv v1.1) == x0))) (r0 1 [2, 3, 4] [20004] (rt [(0, none)] (C10 (([] : List Event), false)))) (r0 1 [2, 3] [20004] (rt [(0, some 20004)] (C10 (v1.1, true))))))))
def A10 (x0 : List UInt8) : Ann := .reg 4 [] [(1000, bsC 13 (cEvent true) ([] : List Event)), (3001, k26 x0 10)] [0, 2, 3, 4, 5, 6] [5, 13, 1016] [] [] [] [0, 4] (r0 1 [0, 2, 3, 4, 5, 6, 19] [5, 13, 1016] (cn (decide (201 < (((l1Split x0 10).length : Nat) : Int))) (r0 1 [0, 2, 3, 4, 5, 6] [5, 13, 1016] (rt [(0, none)] (C10 (([] : List Event), false)))) (r0 1 [0, 2, 3, 4, 5, 6, 20, 21, 22] [5, 13, 1016] (lp (D10b1 x0) [] [13] [(20004, some 13), (30500, none)] (D10b1 x0 0 (([] : List Event), ([] : List Person))) (A10b1 x0)))))
theorem ok_spec_ParseEvents (x0 : List UInt8) (h : x0.length ≤ 1048576) : FnT Tryd.prog 10 [.str x0] (C10 (specParEv x0)) := by
  have aux : ∀ R, specParEv x0 = R → slim (C10 R) (A10 x0) [] := by
    intro R hR
    refine rg ⟨trivial, by with_reducible assumption, trivial⟩ ?_
    refine rg trivial ?_
    revert hR; refine cd (fun hc1 hR => ?_) fun hc1 hR => ?_
    ·
      refine rg trivial ?_
      exact congrArg C10 hR
    ·
      refine rg trivial ?_
      revert hR; refine lN (fun i v => (v.2 : List Person).length ≤ i ∧ (v.1 : List Event).length ≤ i ∧ ∀ e ∈ v.1, e.name.length ≤ 1048576) (by (exact ⟨Nat.zero_le _, Nat.zero_le _, fun e he => absurd he List.not_mem_nil⟩)) rfl fun i1 v1 F1 hn1 hI1 hR hK1 => ?_
      refine rg trivial ?_
      refine ⟨fun hc2 => ?_, fun hc2 => ?_⟩
      · have hii1 : i1 < (l1Split x0 10).length := by have := of_decide_eq_true hc2; omega
        replace hR := loopN_step hR hii1
        refine rg ⟨by (intros; omega), trivial⟩ ?_
        refine rg ⟨by ((try clear hR hK1); intros; (try simp only [decide_eq_true_eq, decide_eq_false_iff_not, Bool.or_eq_true, Bool.and_eq_true, or_f_iff, not_f_iff, not_t_iff, Bool.not_eq_true', inR] at *); (repeat' apply And.intro) <;> (intros; omega)), trivial⟩ ?_
        revert hR; refine cd (fun hc3 hR => ?_) fun hc3 hR => ?_
        ·
          refine rg ⟨⟨by first | (have h9 := l1Split_len10 x0; have h8 := l1Split_getD10 x0 i1; omega) | ((try clear hR hK1); intros; (try simp only [decide_eq_true_eq, decide_eq_false_iff_not, Bool.or_eq_true, Bool.and_eq_true, or_f_iff, not_f_iff, not_t_iff, Bool.not_eq_true', inR] at *); (repeat' apply And.intro) <;> (intros; omega)), by (exact hI1.2.2)⟩, trivial⟩ ?_
          refine rg ⟨fun hg0 => ⟨by first | (have h9 := l1Split_len10 x0; have h8 := l1Split_getD10 x0 i1; omega) | ((try clear hR hK1); intros; (try simp only [decide_eq_true_eq, decide_eq_false_iff_not, Bool.or_eq_true, Bool.and_eq_true, or_f_iff, not_f_iff, not_t_iff, Bool.not_eq_true', inR] at *); (repeat' apply And.intro) <;> (intros; omega)), by (exact hI1.2.2)⟩, trivial⟩ ?_
          revert hR; refine cd (fun hc4 hR => ?_) fun hc4 hR => ?_
          ·
            refine rg trivial ?_
            exact congrArg C10 hR
          ·
            refine rg trivial ?_
            exact congrArg C10 hR
        ·
          refine rg ⟨⟨by ((try clear hR hK1); intros; (try simp only [decide_eq_true_eq, decide_eq_false_iff_not, Bool.or_eq_true, Bool.and_eq_true, or_f_iff, not_f_iff, not_t_iff, Bool.not_eq_true', inR] at *); (repeat' apply And.intro) <;> (intros; omega)), by (have h9 := l1Split_len10 x0; have h8 := l1Split_getD10 x0 i1; omega)⟩, trivial⟩ ?_
          refine rg trivial ?_
          revert hR; refine cd (fun hc5 hR => ?_) fun hc5 hR => ?_
          ·
            refine rg trivial ?_
            exact congrArg C10 hR
          ·
            refine rg trivial ?_
            revert hR; refine cd (fun hc6 hR => ?_) fun hc6 hR => ?_
            ·
              refine rg ⟨trivial, by (have h9 := l1Split_len10 x0; have h8 := l1Split_getD10 x0 i1; omega), trivial⟩ ?_
              refine rg ⟨trivial, by (have h9 := l1Split_len10 x0; have h8 := l1Split_getD10 x0 i1; omega), trivial⟩ ?_
              refine rg ⟨by ((try clear hR hK1); intros; (try simp only [decide_eq_true_eq, decide_eq_false_iff_not, Bool.or_eq_true, Bool.and_eq_true, or_f_iff, not_f_iff, not_t_iff, Bool.not_eq_true', inR] at *); (repeat' apply And.intro) <;> (intros; omega)), trivial⟩ ?_
              exact hK1 ((v1.1 ++ [((l11Line (Family.mk v1.2 ([] : List Union)) ((l1Split x0 10).getD i1 default)).1)]), (v1.2 ++ [(Person.mk (((l11Line (Family.mk v1.2 ([] : List Union)) ((l1Split x0 10).getD i1 default)).1).name) 0 0 0 0 0)])) hii1 (by (dsimp only; refine ⟨(by (try simp only [List.length_append, List.length_cons, List.length_nil]); omega), (by simp only [List.length_append, List.length_cons, List.length_nil]; omega), fun e he => ?_⟩; rcases List.mem_append.1 he with he | he; exact hI1.2.2 e he; rw [List.mem_singleton] at he; rw [he]; exact Nat.le_trans (l11Line_name _ _) (Nat.le_trans (l1Split_getD10 x0 i1) h))) hR
            ·
              refine rg ⟨trivial, by (have h9 := l1Split_len10 x0; have h8 := l1Split_getD10 x0 i1; omega), trivial⟩ ?_
              refine rg ⟨by ((try clear hR hK1); intros; (try simp only [decide_eq_true_eq, decide_eq_false_iff_not, Bool.or_eq_true, Bool.and_eq_true, or_f_iff, not_f_iff, not_t_iff, Bool.not_eq_true', inR] at *); (repeat' apply And.intro) <;> (intros; omega)), trivial⟩ ?_
              exact hK1 ((v1.1 ++ [((l11Line (Family.mk v1.2 ([] : List Union)) ((l1Split x0 10).getD i1 default)).1)]), v1.2) hii1 (by (dsimp only; refine ⟨(by (try simp only [List.length_append, List.length_cons, List.length_nil]); omega), (by simp only [List.length_append, List.length_cons, List.length_nil]; omega), fun e he => ?_⟩; rcases List.mem_append.1 he with he | he; exact hI1.2.2 e he; rw [List.mem_singleton] at he; rw [he]; exact Nat.le_trans (l11Line_name _ _) (Nat.le_trans (l1Split_getD10 x0 i1) h))) hR
      · obtain rfl : i1 = (l1Split x0 10).length := by have := of_decide_eq_false hc2; omega
        replace hR := loopN_end hR (Nat.lt_irrefl _)
        refine rg ⟨⟨by first | (have h9 := l1Split_len10 x0; have h8 := l1Split_getD10 x0 i1; omega) | ((try clear hR hK1); intros; (try simp only [decide_eq_true_eq, decide_eq_false_iff_not, Bool.or_eq_true, Bool.and_eq_true, or_f_iff, not_f_iff, not_t_iff, Bool.not_eq_true', inR] at *); (repeat' apply And.intro) <;> (intros; omega)), by (exact hI1.2.2)⟩, trivial⟩ ?_
        refine rg ⟨fun hg0 => ⟨by first | (have h9 := l1Split_len10 x0; have h8 := l1Split_getD10 x0 i1; omega) | ((try clear hR hK1); intros; (try simp only [decide_eq_true_eq, decide_eq_false_iff_not, Bool.or_eq_true, Bool.and_eq_true, or_f_iff, not_f_iff, not_t_iff, Bool.not_eq_true', inR] at *); (repeat' apply And.intro) <;> (intros; omega)), by (exact hI1.2.2)⟩, trivial⟩ ?_
        revert hR; refine cd (fun hc7 hR => ?_) fun hc7 hR => ?_
        ·
          refine rg trivial ?_
          exact congrArg C10 hR
        ·
          refine rg trivial ?_
          exact congrArg C10 hR
  exact Fn.go 70 Tryd.func10 (by kernel_rfl) (by kernel_rfl) (by simp [C10, Frs, FrsL, FrsB, rowOf, cInt, cBool, cStr, cSl, FrsL_app, cPerson, cUnion, cFamily, cEvent]) (A10 x0) (by kernel_rfl) (aux _ rfl)
def k10 (x0 : List UInt8) : Cl := (hres (C10 (specParEv x0)), k1 (ok_spec_ParseEvents x0))
end Go.Proofs.YtkkijpibajigfabDoor
