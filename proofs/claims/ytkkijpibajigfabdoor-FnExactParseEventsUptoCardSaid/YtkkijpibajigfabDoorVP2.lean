import Derived.Test.YtkkijpibajigfabDoorM211e
set_option maxHeartbeats 4000000
set_option linter.unusedSimpArgs false
set_option linter.unusedVariables false
namespace Go.Proofs.YtkkijpibajigfabDoor
open Go Go.Lite Go.Proofs
def C27 (R : Event × Bool) : LV × List (Nat × BC) := (.tup [.agg [.int .i64 R.1.kind, .int .i64 R.1.year, .str R.1.name, .int .i64 R.1.sex, .int .i64 R.1.a, .int .i64 R.1.b], .bool R.2], [])
def l11Line (x0 : Family) (x1 : List UInt8) : Event × Bool := bif (decide ((((l1Split x1 32).length : Nat) : Int) < 3)) then ((Event.mk 0 0 ([] : List UInt8) 0 0 0), false) else (bif ((decide ((((l1Split x1 32).length : Nat) : Int) = 6)) && (((l1Split x1 32).getD 1 default) == [98, 111, 114, 110])) then (bif (((l1Split x1 32).getD 3 default) == [119, 111, 109, 97, 110]) then ((Event.mk 1 (l1Read ((l1Split x1 32).getD 0 default)) ((l1Split x1 32).getD 2 default) 2 ((l1Index x0 ((l1Split x1 32).getD 4 default)).1) ((l1Index x0 ((l1Split x1 32).getD 5 default)).1)), ((l1Index x0 ((l1Split x1 32).getD 4 default)).2) && ((l1Index x0 ((l1Split x1 32).getD 5 default)).2)) else ((Event.mk 1 (l1Read ((l1Split x1 32).getD 0 default)) ((l1Split x1 32).getD 2 default) 1 ((l1Index x0 ((l1Split x1 32).getD 4 default)).1) ((l1Index x0 ((l1Split x1 32).getD 5 default)).1)), ((l1Index x0 ((l1Split x1 32).getD 4 default)).2) && ((l1Index x0 ((l1Split x1 32).getD 5 default)).2))) else (bif ((decide ((((l1Split x1 32).length : Nat) : Int) = 4)) && ((((l1Split x1 32).getD 1 default) == [117, 110, 105, 111, 110]) || (((l1Split x1 32).getD 1 default) == [112, 97, 114, 116, 101, 100]))) then (bif (((l1Split x1 32).getD 1 default) == [112, 97, 114, 116, 101, 100]) then ((Event.mk 3 (l1Read ((l1Split x1 32).getD 0 default)) ([] : List UInt8) 0 ((l1Find x0 ((l1Split x1 32).getD 2 default)).1) ((l1Find x0 ((l1Split x1 32).getD 3 default)).1)), ((l1Find x0 ((l1Split x1 32).getD 2 default)).2) && ((l1Find x0 ((l1Split x1 32).getD 3 default)).2)) else ((Event.mk 2 (l1Read ((l1Split x1 32).getD 0 default)) ([] : List UInt8) 0 ((l1Find x0 ((l1Split x1 32).getD 2 default)).1) ((l1Find x0 ((l1Split x1 32).getD 3 default)).1)), ((l1Find x0 ((l1Split x1 32).getD 2 default)).2) && ((l1Find x0 ((l1Split x1 32).getD 3 default)).2))) else (bif ((decide ((((l1Split x1 32).length : Nat) : Int) = 3)) && (((l1Split x1 32).getD 1 default) == [100, 105, 101, 100])) then ((Event.mk 4 (l1Read ((l1Split x1 32).getD 0 default)) ([] : List UInt8) 0 ((l1Find x0 ((l1Split x1 32).getD 2 default)).1) 0), (l1Find x0 ((l1Split x1 32).getD 2 default)).2) else ((Event.mk 0 (l1Read ((l1Split x1 32).getD 0 default)) ([] : List UInt8) 0 0 0), false))))
def A27 (x0 : Family) (x1 : List UInt8) : Ann := .reg 2 [] [(1001, k26 x1 32)] [2, 4, 5, 6] [2, 4, 1019] [] [] [] [0] (r0 1 [2, 4, 5, 6, 22] [2, 4, 1019] (cn (decide ((((l1Split x1 32).length : Nat) : Int) < 3)) (r0 1 [2, 4, 5, 6] [2, 4, 1019] (rt [] (C27 ((Event.mk 0 0 ([] : List UInt8) 0 0 0), false)))) (.reg 1 [] [(3, k37 ((l1Split x1 32).getD 0 default))] [2, 4, 5, 6, 7] [2, 4, 7, 1019] [] [pf (0 ≤ (0 : Int) ∧ (0 : Int) < (((l1Split x1 32).length : Nat) : Int))] [] [0, 4] (.reg 1 [] [] [2, 4, 5, 6, 7, 29] [2, 4, 7, 1019] [decide ((((l1Split x1 32).length : Nat) : Int) = 6)] [gt (decide ((((l1Split x1 32).length : Nat) : Int) = 6)) (pf (0 ≤ (1 : Int) ∧ (1 : Int) < (((l1Split x1 32).length : Nat) : Int)))] [] [1, 0, 1, 1, 1] (cn ((decide ((((l1Split x1 32).length : Nat) : Int) = 6)) && (((l1Split x1 32).getD 1 default) == [98, 111, 114, 110])) (.reg 7 [] [(4, k38 x0 ((l1Split x1 32).getD 4 default)), (1004, k38 x0 ((l1Split x1 32).getD 5 default))] [4, 5, 6, 7, 9, 11] [4, 7, 1019] [] [pf (0 ≤ (4 : Int) ∧ (4 : Int) < (((l1Split x1 32).length : Nat) : Int)), pf (0 ≤ (5 : Int) ∧ (5 : Int) < (((l1Split x1 32).length : Nat) : Int)), pf (0 ≤ (2 : Int) ∧ (2 : Int) < (((l1Split x1 32).length : Nat) : Int))] [] [0, 12, 4, 16, 8] (r1 1 [4, 5, 7, 9, 11, 68] [4, 7] [pf (0 ≤ (3 : Int) ∧ (3 : Int) < (((l1Split x1 32).length : Nat) : Int))] [0] (cn (((l1Split x1 32).getD 3 default) == [119, 111, 109, 97, 110]) (r0 1 [4, 5, 7, 9, 11] [4, 7] (.reg 1 [] [] [4, 5, 7] [4, 7] [(l1Index x0 ((l1Split x1 32).getD 4 default)).2] [] [] [1] (rt [] (C27 ((Event.mk 1 (l1Read ((l1Split x1 32).getD 0 default)) ((l1Split x1 32).getD 2 default) 2 ((l1Index x0 ((l1Split x1 32).getD 4 default)).1) ((l1Index x0 ((l1Split x1 32).getD 5 default)).1)), ((l1Index x0 ((l1Split x1 32).getD 4 default)).2) && ((l1Index x0 ((l1Split x1 32).getD 5 default)).2)))))) (.reg 1 [] [] [4, 5, 7] [4, 7] [(l1Index x0 ((l1Split x1 32).getD 4 default)).2] [] [] [1] (rt [] (C27 ((Event.mk 1 (l1Read ((l1Split x1 32).getD 0 default)) ((l1Split x1 32).getD 2 default) 1 ((l1Index x0 ((l1Split x1 32).getD 4 default)).1) ((l1Index x0 ((l1Split x1 32).getD 5 default)).1)), ((l1Index x0 ((l1Split x1 32).getD 4 default)).2) && ((l1Index x0 ((l1Split x1 32).getD 5 default)).2)))))))) (.reg 1 [] [] [2, 4, 5, 6, 7, 75] [2, 4, 7, 1019] [decide ((((l1Split x1 32).length : Nat) : Int) = 4), (decide ((((l1Split x1 32).length : Nat) : Int) = 4)) && (!(((l1Split x1 32).getD 1 default) == [117, 110, 105, 111, 110]))] [gt (decide ((((l1Split x1 32).length : Nat) : Int) = 4)) (pf (0 ≤ (1 : Int) ∧ (1 : Int) < (((l1Split x1 32).length : Nat) : Int))), gt ((decide ((((l1Split x1 32).length : Nat) : Int) = 4)) && (!(((l1Split x1 32).getD 1 default) == [117, 110, 105, 111, 110]))) (pf (0 ≤ (1 : Int) ∧ (1 : Int) < (((l1Split x1 32).length : Nat) : Int))), gt (decide ((((l1Split x1 32).length : Nat) : Int) = 4)) (gf (((l1Split x1 32).getD 1 default) == [117, 110, 105, 111, 110]) (pf (((decide ((((l1Split x1 32).length : Nat) : Int) = 4)) && (!(((l1Split x1 32).getD 1 default) == [117, 110, 105, 111, 110]))) = true)))] [] [1, 0, 1, 1, 1, 5, 4, 5, 5, 1, 8, 1] (cn ((decide ((((l1Split x1 32).length : Nat) : Int) = 4)) && ((((l1Split x1 32).getD 1 default) == [117, 110, 105, 111, 110]) || (((l1Split x1 32).getD 1 default) == [112, 97, 114, 116, 101, 100]))) (.reg 3 [] [(4, k39 x0 ((l1Split x1 32).getD 2 default)), (1004, k39 x0 ((l1Split x1 32).getD 3 default))] [4, 5, 6, 7, 12, 13, 14, 15] [4, 7, 1019] [] [pf (0 ≤ (2 : Int) ∧ (2 : Int) < (((l1Split x1 32).length : Nat) : Int)), pf (0 ≤ (3 : Int) ∧ (3 : Int) < (((l1Split x1 32).length : Nat) : Int))] [] [0, 8, 4, 12] (r1 1 [4, 5, 7, 12, 13, 14, 15, 111] [4, 7] [pf (0 ≤ (1 : Int) ∧ (1 : Int) < (((l1Split x1 32).length : Nat) : Int))] [0] (cn (((l1Split x1 32).getD 1 default) == [112, 97, 114, 116, 101, 100]) (r0 1 [4, 5, 7, 12, 13, 14, 15] [4, 7] (.reg 3 [] [] [4, 5, 7] [4, 7] [(l1Find x0 ((l1Split x1 32).getD 2 default)).2] [] [] [1] (rt [] (C27 ((Event.mk 3 (l1Read ((l1Split x1 32).getD 0 default)) ([] : List UInt8) 0 ((l1Find x0 ((l1Split x1 32).getD 2 default)).1) ((l1Find x0 ((l1Split x1 32).getD 3 default)).1)), ((l1Find x0 ((l1Split x1 32).getD 2 default)).2) && ((l1Find x0 ((l1Split x1 32).getD 3 default)).2)))))) (.reg 3 [] [] [4, 5, 7] [4, 7] [(l1Find x0 ((l1Split x1 32).getD 2 default)).2] [] [] [1] (rt [] (C27 ((Event.mk 2 (l1Read ((l1Split x1 32).getD 0 default)) ([] : List UInt8) 0 ((l1Find x0 ((l1Split x1 32).getD 2 default)).1) ((l1Find x0 ((l1Split x1 32).getD 3 default)).1)), ((l1Find x0 ((l1Split x1 32).getD 2 default)).2) && ((l1Find x0 ((l1Split x1 32).getD 3 default)).2)))))))) (.reg 1 [] [] [2, 4, 5, 6, 7, 122] [2, 4, 7, 1019] [decide ((((l1Split x1 32).length : Nat) : Int) = 3)] [gt (decide ((((l1Split x1 32).length : Nat) : Int) = 3)) (pf (0 ≤ (1 : Int) ∧ (1 : Int) < (((l1Split x1 32).length : Nat) : Int)))] [] [1, 0, 1, 1, 1] (cn ((decide ((((l1Split x1 32).length : Nat) : Int) = 3)) && (((l1Split x1 32).getD 1 default) == [100, 105, 101, 100])) (.reg 4 [] [(4, k39 x0 ((l1Split x1 32).getD 2 default))] [4, 5, 7] [4, 7] [] [pf (0 ≤ (2 : Int) ∧ (2 : Int) < (((l1Split x1 32).length : Nat) : Int))] [] [0, 4] (rt [] (C27 ((Event.mk 4 (l1Read ((l1Split x1 32).getD 0 default)) ([] : List UInt8) 0 ((l1Find x0 ((l1Split x1 32).getD 2 default)).1) 0), (l1Find x0 ((l1Split x1 32).getD 2 default)).2)))) (r0 1 [4, 5] [4] (rt [] (C27 ((Event.mk 0 (l1Read ((l1Split x1 32).getD 0 default)) ([] : List UInt8) 0 0 0), false)))))))))))))
theorem l1Split_getD (x : List UInt8) (k : Nat) : ((l1Split x 32).getD k default).length ≤ x.length := by
  have e : splitS x [32] = l1Split x 32 := split_eq x 32
  rw [← e]; exact splitS_mem x [32] k
theorem l1Split_getD10 (x : List UInt8) (k : Nat) : ((l1Split x 10).getD k default).length ≤ x.length := by
  have e : splitS x [10] = l1Split x 10 := split_eq x 10
  rw [← e]; exact splitS_mem x [10] k
theorem l1Split_len10 (x : List UInt8) : 1 ≤ (l1Split x 10).length ∧ (l1Split x 10).length ≤ x.length + 1 := by
  have e : l1Split x 10 = pieces 10 x := l1Split_eq x 10
  rw [e]; exact pieces_len _ _
theorem l11Line_name (x : Family) (l : List UInt8) : (l11Line x l).1.name.length ≤ l.length := by
  unfold l11Line
  repeat' refine cond_both (p := fun (r : Event × Bool) => r.1.name.length ≤ l.length) (fun _ => ?_) (fun _ => ?_)
  all_goals first | exact Nat.zero_le _ | exact l1Split_getD l 2
theorem ok_spec_l11Line (x0 : Family) (x1 : List UInt8) (hx : x0.people.length ≤ 1048576) (hl : x1.length ≤ 1048576) : FnT Tryd.prog 27 [.agg (cFamily false x0), .str x1] (C27 (l11Line x0 x1)) := by
  have aux : ∀ R, l11Line x0 x1 = R → slim (C27 R) (A27 x0 x1) [] := by
    intro R hR
    refine rg ⟨by with_reducible assumption, trivial⟩ ?_
    refine rg trivial ?_
    revert hR; refine cd (fun hc1 hR => ?_) fun hc1 hR => ?_
    ·
      refine rg trivial ?_
      exact congrArg C27 hR
    ·
      refine rg ⟨by ((try clear hR); intros; (try simp only [decide_eq_true_eq, decide_eq_false_iff_not, Bool.or_eq_true, Bool.and_eq_true, or_f_iff, not_f_iff, not_t_iff, Bool.not_eq_true', inR] at *); (repeat' apply And.intro) <;> (intros; omega)), trivial, trivial⟩ ?_
      refine rg ⟨by (simp; omega), trivial⟩ ?_
      revert hR; refine cd (fun hc2 hR => ?_) fun hc2 hR => ?_
      ·
        refine rg ⟨by ((try clear hR); intros; (try simp only [decide_eq_true_eq, decide_eq_false_iff_not, Bool.or_eq_true, Bool.and_eq_true, or_f_iff, not_f_iff, not_t_iff, Bool.not_eq_true', inR] at *); (repeat' apply And.intro) <;> (intros; omega)), by ((try clear hR); intros; (try simp only [decide_eq_true_eq, decide_eq_false_iff_not, Bool.or_eq_true, Bool.and_eq_true, or_f_iff, not_f_iff, not_t_iff, Bool.not_eq_true', inR] at *); (repeat' apply And.intro) <;> (intros; omega)), by ((try clear hR); intros; (try simp only [decide_eq_true_eq, decide_eq_false_iff_not, Bool.or_eq_true, Bool.and_eq_true, or_f_iff, not_f_iff, not_t_iff, Bool.not_eq_true', inR] at *); (repeat' apply And.intro) <;> (intros; omega)), by with_reducible assumption, by with_reducible assumption, trivial⟩ ?_
        refine rg ⟨by ((try clear hR); intros; (try simp only [decide_eq_true_eq, decide_eq_false_iff_not, Bool.or_eq_true, Bool.and_eq_true, or_f_iff, not_f_iff, not_t_iff, Bool.not_eq_true', inR] at *); (repeat' apply And.intro) <;> (intros; omega)), trivial⟩ ?_
        revert hR; refine cd (fun hc3 hR => ?_) fun hc3 hR => ?_
        ·
          refine rg trivial ?_
          refine rg trivial ?_
          exact congrArg C27 hR
        ·
          refine rg trivial ?_
          exact congrArg C27 hR
      ·
        refine rg ⟨by (simp; omega), by (simp; omega), by ((try clear hR); intros; (try simp only [decide_eq_true_eq, decide_eq_false_iff_not, Bool.or_eq_true, Bool.and_eq_true, or_f_iff, not_f_iff, not_t_iff, Bool.not_eq_true', inR] at *); (repeat' apply And.intro) <;> (intros; omega)), trivial⟩ ?_
        revert hR; refine cd (fun hc4 hR => ?_) fun hc4 hR => ?_
        ·
          refine rg ⟨by ((try clear hR); intros; (try simp only [decide_eq_true_eq, decide_eq_false_iff_not, Bool.or_eq_true, Bool.and_eq_true, or_f_iff, not_f_iff, not_t_iff, Bool.not_eq_true', inR] at *); (repeat' apply And.intro) <;> (intros; omega)), by ((try clear hR); intros; (try simp only [decide_eq_true_eq, decide_eq_false_iff_not, Bool.or_eq_true, Bool.and_eq_true, or_f_iff, not_f_iff, not_t_iff, Bool.not_eq_true', inR] at *); (repeat' apply And.intro) <;> (intros; omega)), by with_reducible assumption, by with_reducible assumption, trivial⟩ ?_
          refine rg ⟨by ((try clear hR); intros; (try simp only [decide_eq_true_eq, decide_eq_false_iff_not, Bool.or_eq_true, Bool.and_eq_true, or_f_iff, not_f_iff, not_t_iff, Bool.not_eq_true', inR] at *); (repeat' apply And.intro) <;> (intros; omega)), trivial⟩ ?_
          revert hR; refine cd (fun hc5 hR => ?_) fun hc5 hR => ?_
          ·
            refine rg trivial ?_
            refine rg trivial ?_
            exact congrArg C27 hR
          ·
            refine rg trivial ?_
            exact congrArg C27 hR
        ·
          refine rg ⟨by (simp; omega), trivial⟩ ?_
          revert hR; refine cd (fun hc6 hR => ?_) fun hc6 hR => ?_
          ·
            refine rg ⟨by ((try clear hR); intros; (try simp only [decide_eq_true_eq, decide_eq_false_iff_not, Bool.or_eq_true, Bool.and_eq_true, or_f_iff, not_f_iff, not_t_iff, Bool.not_eq_true', inR] at *); (repeat' apply And.intro) <;> (intros; omega)), by with_reducible assumption, trivial⟩ ?_
            exact congrArg C27 hR
          ·
            refine rg trivial ?_
            exact congrArg C27 hR
  exact Fn.go 146 Tryd.func27 (by kernel_rfl) (by kernel_rfl) (by simp [C27, Frs, FrsL]) (A27 x0 x1) (by kernel_rfl) (aux _ rfl)
def C28 (R : (List (List UInt8)) × Bool) : LV × List (Nat × BC) := (.tup [.own 0, .bool R.2], [(0, .arr 1 R.1.length (rowOf (cStr) R.1))])
def textLines (x0 : List UInt8) : (List (List UInt8)) × Bool := bif (x0 == ([] : List UInt8)) then (([] : List (List UInt8)), true) else (bif (!(hasSuf x0 [10])) then (([] : List (List UInt8)), false) else (splitS ((x0.drop 0).take (((((x0.length : Nat) : Int) - 1).toNat) - 0)) [10], true))
def A28 (x0 : List UInt8) : Ann := r0 1 [0, 2, 3] [] (r0 1 [0, 2, 3, 5] [] (cn (x0 == ([] : List UInt8)) (r0 1 [0, 2, 3] [] (rt [(0, none)] (C28 (([] : List (List UInt8)), true)))) (.reg 1 [] [(1, k40 x0 [10])] [0, 2, 3, 8] [] [] [] [] [0] (cn (!(hasSuf x0 [10])) (r0 1 [0, 2, 3] [] (rt [(0, none)] (C28 (([] : List (List UInt8)), false)))) (.reg 1 [] [(5, k41 ((x0.drop 0).take (((((x0.length : Nat) : Int) - 1).toNat) - 0)) [10])] [2, 3] [1014] [] [pf (inR .i64 (((x0.length : Nat) : Int) - 1)), pf (0 ≤ (0 : Int) ∧ (0 : Int) ≤ ((x0.length : Nat) : Int) - 1 ∧ (((x0.length : Nat) : Int) - 1 : Int) ≤ ((x0.length : Nat) : Int))] [] [0, 4, 8] (rt [(0, some 1014)] (C28 (splitS ((x0.drop 0).take (((((x0.length : Nat) : Int) - 1).toNat) - 0)) [10], true))))))))
theorem textLines_len (x : List UInt8) : (textLines x).1.length ≤ x.length + 1 := by
  unfold textLines
  repeat' refine cond_both (p := fun (r : List (List UInt8) × Bool) => r.1.length ≤ x.length + 1) (fun _ => ?_) (fun _ => ?_)
  all_goals first | exact Nat.zero_le _ | (refine Nat.le_trans (splitS_len _ _) ?_; simp only [List.length_take, List.length_drop]; omega)
theorem textLines_mem (x : List UInt8) (k : Nat) : ((textLines x).1.getD k default).length ≤ x.length := by
  unfold textLines
  repeat' refine cond_both (p := fun (r : List (List UInt8) × Bool) => (r.1.getD k default).length ≤ x.length) (fun _ => ?_) (fun _ => ?_)
  all_goals first | exact Nat.zero_le _ | (refine Nat.le_trans (splitS_mem _ _ k) ?_; simp only [List.length_take, List.length_drop]; omega)
theorem ok_impl_textLines (x0 : List UInt8) (h : x0.length ≤ 1048576) : FnT Tryd.prog 28 [.str x0] (C28 (textLines x0)) := by
  have aux : ∀ R, textLines x0 = R → slim (C28 R) (A28 x0) [] := by
    intro R hR
    refine rg trivial ?_
    refine rg trivial ?_
    revert hR; refine cd (fun hc1 hR => ?_) fun hc1 hR => ?_
    ·
      refine rg trivial ?_
      exact congrArg C28 hR
    ·
      refine rg ⟨by ((exact ⟨by omega, by decide⟩)), trivial⟩ ?_
      revert hR; refine cd (fun hc2 hR => ?_) fun hc2 hR => ?_
      ·
        refine rg trivial ?_
        exact congrArg C28 hR
      ·
        refine rg ⟨by ( intros; simp only [inR]; omega), by ((have h9 : x0 ≠ [] := (by simpa using hc1); have h8 := List.length_pos_iff.2 h9; omega)), by ((refine ⟨?_, rfl⟩; simp only [List.length_take, List.length_drop]; omega)), trivial⟩ ?_
        exact congrArg C28 hR
  exact Fn.go 15 Tryd.func28 (by kernel_rfl) (by kernel_rfl) (by simp [C28, Frs, FrsL, FrsB, rowOf, cInt, cBool, cStr, cSl, FrsL_app, cPerson, cUnion, cFamily, cEvent]) (A28 x0) (by kernel_rfl) (aux _ rfl)
def k28 (x0 : List UInt8) : Cl := (hres (C28 (textLines x0)), k1 (ok_impl_textLines x0))
end Go.Proofs.YtkkijpibajigfabDoor
