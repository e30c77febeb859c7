import Derived.Test.YtepefimocflfkabDoorVT1
set_option maxHeartbeats 4000000
set_option linter.unusedSimpArgs false
set_option linter.unusedVariables false
namespace Go.Proofs.YtepefimocflfkabDoor
open Go Go.Lite Go.Proofs
def C24 (R : (List (List UInt8))) : LV × List (Nat × BC) := (.own 0, [(0, .arr 1 R.length (rowOf (cStr) R))])
def splitS (x0 x1 : List UInt8) : List (List UInt8) := pieces (x1.getD 0 0) x0
theorem splitS_len (x0 x1 : List UInt8) : (splitS x0 x1).length ≤ x0.length + 1 := (pieces_len _ _).2
theorem ok_strings_Split (x0 : List UInt8) (x1 : List UInt8) (h : x0.length ≤ 1048576 ∧ x1.length = 1) : FnT Tryd.prog 24 [.str x0, .str x1] (C24 (splitS x0 x1)) := by
  obtain ⟨c, rfl⟩ := List.length_eq_one_iff.1 h.2
  refine Fn.of_strs (T := 9) args_str2 (by have := splitS_len x0 [c]; unfold maxLen; omega) fun w hg => ?_
  obtain ⟨_, _, ⟨m, hm⟩, _⟩ := hg
  refine (Tryd.strings_Split ⟨x0.toArray⟩ ⟨#[c]⟩ m w (by show x0.toArray.size < _; simp; omega) hm (Nat.le_refl 1)).mono fun e w' ⟨he, hw⟩ => ⟨?_, ?_⟩
  · rw [he, pieces_count]; rfl
  · rw [hw, splitB_pieces]; rfl
def k24 (x0 : List UInt8) (x1 : List UInt8) : Cl := (hres (C24 (splitS x0 x1)), k1 (ok_strings_Split x0 x1))
def C33 (R : Int × Bool) : LV × List (Nat × BC) := (.tup [.int .i64 R.1, .er R.2], [])
def atoiE (x0 : List UInt8) : Int × Bool := match Lib.atoi x0 with
  | some n => (n, false)
  | none => (0, true)
theorem atoiE_some {x0 : List UInt8} {n : Int} (e : Lib.atoi x0 = some n) : atoiE x0 = (n, false) := by unfold atoiE; rw [e]
theorem atoiE_none {x0 : List UInt8} (e : Lib.atoi x0 = none) : atoiE x0 = (0, true) := by unfold atoiE; rw [e]
theorem ok_strconv_Atoi (x0 : List UInt8) (h : x0.length ≤ 18) : FnT Tryd.prog 33 [.str x0] (C33 (atoiE x0)) := by
  have hs : (⟨x0.toArray⟩ : ByteArray).size ≤ 18 := by show x0.toArray.size ≤ 18; simpa using h
  cases e : Lib.atoi x0 with
  | some n =>
    rw [atoiE_some e]
    exact Fn.of_intErr args_str fun w _ => (Tryd.strconv_Atoi ⟨x0.toArray⟩ n hs (by simpa using e) w).mono fun e w' ⟨he, t, hw⟩ => ⟨_, he, fun _ => rfl, fun h => (by cases h), by rw [hw]; exact Lib.bytesWorld_below _ _ _⟩
  | none =>
    rw [atoiE_none e]
    refine Fn.of_intErr args_str fun w hg => ?_
    obtain ⟨_, _, _, te, pe, hv⟩ := hg
    exact (Tryd.strconv_Atoi_err ⟨x0.toArray⟩ hs (by simpa using e) _ w hv (.inr ⟨te, pe, rfl⟩)).mono fun e w' ⟨N, he, _, _, hb⟩ => ⟨_, he, fun h => (by cases h), fun _ => ⟨_, _, rfl⟩, hb⟩
def k33 (x0 : List UInt8) : Cl := (hres (C33 (atoiE x0)), k1 (ok_strconv_Atoi x0))
def C22 (R : (List (List UInt8))) : LV × List (Nat × BC) := (.own 0, [(0, .arr 1 R.length (rowOf (cStr) R))])
def l1Split (x0 : List UInt8) (x1 : Int) : (List (List UInt8)) := loopN (fun i1 (v1 : (List (List UInt8)) × Int) next => bif (decide (((x0.getD i1 0).toNat : Int) = x1)) then (next ((v1.1 ++ ([(x0.drop v1.2.toNat).take (i1 - v1.2.toNat)] : List (List UInt8))), ((i1 : Nat) : Int) + 1)) else (next (v1.1, v1.2))) (fun (v1 : (List (List UInt8)) × Int) => (v1.1 ++ ([(x0.drop v1.2.toNat).take (x0.length - v1.2.toNat)] : List (List UInt8)))) x0.length 0 (([] : List (List UInt8)), 0)
def D22b1 (x0 : List UInt8) (x1 : Int) (i1 : Nat) (v1 : (List (List UInt8)) × Int) : Dl := ⟨[(7, .int .i64 ((i1 : Nat) : Int)), (5, .own 20005), (6, .int .i64 v1.2)], [(20005, .arr 1 v1.1.length (rowOf (cStr) v1.1))]⟩
def A22b1 (x0 : List UInt8) (x1 : Int) (i1 : Nat) (v1 : (List (List UInt8)) × Int) : Ann := r0 1 [0, 1, 4, 5, 6, 7, 12] [20005] (cn (decide (((i1 : Nat) : Int) < ((x0.length : Nat) : Int))) (r1 1 [0, 1, 4, 5, 6, 7, 19] [20005] [pf (0 ≤ (((i1 : Nat) : Int) : Int) ∧ (((i1 : Nat) : Int) : Int) < ((x0.length : Nat) : Int))] [0] (cn (decide (((x0.getD i1 0).toNat : Int) = x1)) (.reg 1 [] [(5, bsC 25 (cStr) (([(x0.drop v1.2.toNat).take (i1 - v1.2.toNat)] : List (List UInt8)) : List (List UInt8))), (6, apC 26 (cStr) 16 v1.1 ([(x0.drop v1.2.toNat).take (i1 - v1.2.toNat)] : List (List UInt8)))] [0, 1, 4, 5, 6, 7] [26] [] [pf (0 ≤ (v1.2 : Int) ∧ (v1.2 : Int) ≤ ((i1 : Nat) : Int) ∧ (((i1 : Nat) : Int) : Int) ≤ ((x0.length : Nat) : Int))] [] [0, 4, 8] (r1 1 [0, 1, 4, 5, 6, 7] [26] [pf (inR .i64 (((i1 : Nat) : Int) + 1))] [0] (r1 1 [0, 1, 4, 5, 6, 7] [26] [pf (inR .i64 (((i1 : Nat) : Int) + 1))] [0] (.next 0 [(20005, some 26)] (D22b1 x0 x1 (i1 + 1) ((v1.1 ++ ([(x0.drop v1.2.toNat).take (i1 - v1.2.toNat)] : List (List UInt8))), ((i1 : Nat) : Int) + 1)))))) (r1 1 [0, 1, 4, 5, 6, 7] [20005] [pf (inR .i64 (((i1 : Nat) : Int) + 1))] [0] (.next 0 [(20005, some 20005)] (D22b1 x0 x1 (i1 + 1) (v1.1, v1.2)))))) (.reg 1 [] [(4, bsC 33 (cStr) (([(x0.drop v1.2.toNat).take (x0.length - v1.2.toNat)] : List (List UInt8)) : List (List UInt8))), (5, apC 34 (cStr) 16 v1.1 ([(x0.drop v1.2.toNat).take (x0.length - v1.2.toNat)] : List (List UInt8)))] [4] [34] [] [pf (0 ≤ (v1.2 : Int) ∧ (v1.2 : Int) ≤ ((x0.length : Nat) : Int) ∧ (((x0.length : Nat) : Int) : Int) ≤ ((x0.length : Nat) : Int))] [] [0, 4, 8] (rt [(0, some 34)] (C22 (v1.1 ++ ([(x0.drop v1.2.toNat).take (x0.length - v1.2.toNat)] : List (List UInt8)))))))
def A22 (x0 : List UInt8) (x1 : Int) : Ann := .reg 3 [] [(1000, bsC 8 (cStr) ([] : List (List UInt8)))] [0, 1, 4, 5, 6] [8] [] [] [] [0] (r0 1 [0, 1, 4, 5, 6, 7] [8] (lp (D22b1 x0 x1) [] [8] [(20005, some 8)] (D22b1 x0 x1 0 (([] : List (List UInt8)), 0)) (A22b1 x0 x1)))
theorem ok_spec_l1Split (x0 : List UInt8) (x1 : Int) (h : x0.length ≤ 1048576) : FnT Tryd.prog 22 [.str x0, .int .u8 x1] (C22 (l1Split x0 x1)) := by
  have aux : ∀ R, l1Split x0 x1 = R → slim (C22 R) (A22 x0 x1) [] := by
    intro R hR
    refine rg ⟨trivial, trivial⟩ ?_
    refine rg trivial ?_
    revert hR; refine lN (fun i v => v.1.length ≤ i ∧ 0 ≤ v.2 ∧ v.2 ≤ i) (by trivial) rfl fun i1 v1 F1 hn1 hI1 hR hK1 => ?_
    refine rg trivial ?_
    refine ⟨fun hc1 => ?_, fun hc1 => ?_⟩
    · have hii1 : i1 < x0.length := by have := of_decide_eq_true hc1; omega
      replace hR := loopN_step hR hii1
      refine rg ⟨by (intros; omega), trivial⟩ ?_
      revert hR; refine cd (fun hc2 hR => ?_) fun hc2 hR => ?_
      ·
        refine rg ⟨by (intros; omega), trivial, by (simp; omega), trivial⟩ ?_
        refine rg ⟨by ( intros; simp only [inR]; omega), trivial⟩ ?_
        refine rg ⟨by ( intros; simp only [inR]; omega), trivial⟩ ?_
        exact hK1 ((v1.1 ++ ([(x0.drop v1.2.toNat).take (i1 - v1.2.toNat)] : List (List UInt8))), ((i1 : Nat) : Int) + 1) hii1 (by ((try clear hR hK1); intros; (try simp only [decide_eq_true_eq, decide_eq_false_iff_not, Bool.or_eq_true, Bool.and_eq_true, or_f_iff, not_f_iff, not_t_iff, Bool.not_eq_true', inR] at *); (repeat' apply And.intro) <;> (first | (intros; omega) | (simp_all [inR]; done)))) hR
      ·
        refine rg ⟨by ( intros; simp only [inR]; omega), trivial⟩ ?_
        exact hK1 (v1.1, v1.2) hii1 (by ( intros; simp only [inR]; omega)) hR
    · obtain rfl : i1 = x0.length := by have := of_decide_eq_false hc1; omega
      replace hR := loopN_end hR (Nat.lt_irrefl _)
      refine rg ⟨by (intros; omega), trivial, by (simp; omega), trivial⟩ ?_
      exact congrArg C22 hR
  exact Fn.go 35 Tryd.func22 (by kernel_rfl) (by kernel_rfl) (by simp [C22, Frs, FrsL, FrsB, rowOf, cInt, cBool, cStr, cSl, FrsL_app, cLaw]) (A22 x0 x1) (by kernel_rfl) (aux _ rfl)
def k22 (x0 : List UInt8) (x1 : Int) : Cl := (hres (C22 (l1Split x0 x1)), k1 (ok_spec_l1Split x0 x1))
def C23 (R : Int) : LV × List (Nat × BC) := (.int .i64 R, [])
def l1Read (x0 : List UInt8) : Int := bif (((decide (((x0.length : Nat) : Int) < 1)) || (decide (4 < ((x0.length : Nat) : Int)))) || ((decide (((x0.getD 0 0).toNat : Int) = 48)) && (decide (1 < ((x0.length : Nat) : Int))))) then (-1) else (loopN (fun i1 (v1 : Int) next => bif ((decide (((x0.getD i1 0).toNat : Int) < 48)) || (decide (57 < ((x0.getD i1 0).toNat : Int)))) then (-1) else (next ((10 * v1) + (((x0.getD i1 0).toNat : Int) - 48)))) (fun (v1 : Int) => v1) x0.length 0 0)
def D23b1 (x0 : List UInt8) (i1 : Nat) (v1 : Int) : Dl := ⟨[(4, .int .i64 ((i1 : Nat) : Int)), (3, .int .i64 v1)], []⟩
def A23b1 (x0 : List UInt8) (i1 : Nat) (v1 : Int) : Ann := r0 1 [0, 2, 3, 4, 26] [] (cn (decide (((i1 : Nat) : Int) < ((x0.length : Nat) : Int))) (.reg 1 [] [] [0, 2, 3, 4, 38] [] [!(decide (((x0.getD i1 0).toNat : Int) < 48)), decide (((x0.getD i1 0).toNat : Int) < 48)] [pf (0 ≤ (((i1 : Nat) : Int) : Int) ∧ (((i1 : Nat) : Int) : Int) < ((x0.length : Nat) : Int)), gt (!(decide (((x0.getD i1 0).toNat : Int) < 48))) (pf (0 ≤ (((i1 : Nat) : Int) : Int) ∧ (((i1 : Nat) : Int) : Int) < ((x0.length : Nat) : Int)))] [] [0, 1, 1, 4, 1, 6] (cn ((decide (((x0.getD i1 0).toNat : Int) < 48)) || (decide (57 < ((x0.getD i1 0).toNat : Int)))) (r0 1 [0, 2, 3, 4] [] (rt [] (C23 (-1)))) (r1 1 [0, 2, 3, 4] [] [pf (inR .i64 (10 * v1)), pf (0 ≤ (((i1 : Nat) : Int) : Int) ∧ (((i1 : Nat) : Int) : Int) < ((x0.length : Nat) : Int)), pf (inR .u8 (((x0.getD i1 0).toNat : Int) - 48)), pf (inR .i64 (((x0.getD i1 0).toNat : Int) - 48)), pf (inR .i64 ((10 * v1) + (((x0.getD i1 0).toNat : Int) - 48)))] [0, 4, 8, 12, 16] (r1 1 [0, 2, 3, 4] [] [pf (inR .i64 (((i1 : Nat) : Int) + 1))] [0] (.next 0 [] (D23b1 x0 (i1 + 1) ((10 * v1) + (((x0.getD i1 0).toNat : Int) - 48)))))))) (r0 1 [2] [] (rt [] (C23 v1))))
def A23 (x0 : List UInt8) : Ann := r0 1 [0, 2] [] (.reg 1 [] [] [0, 2, 22] [] [!(decide (((x0.length : Nat) : Int) < 1)), decide (((x0.length : Nat) : Int) < 1), !((decide (((x0.length : Nat) : Int) < 1)) || (decide (4 < ((x0.length : Nat) : Int)))), (!((decide (((x0.length : Nat) : Int) < 1)) || (decide (4 < ((x0.length : Nat) : Int))))) && (decide (((x0.getD 0 0).toNat : Int) = 48)), (decide (((x0.length : Nat) : Int) < 1)) || (decide (4 < ((x0.length : Nat) : Int)))] [gt (!((decide (((x0.length : Nat) : Int) < 1)) || (decide (4 < ((x0.length : Nat) : Int))))) (pf (0 ≤ (0 : Int) ∧ (0 : Int) < ((x0.length : Nat) : Int))), gt (!((decide (((x0.length : Nat) : Int) < 1)) || (decide (4 < ((x0.length : Nat) : Int))))) (gt (decide (((x0.getD 0 0).toNat : Int) = 48)) (pf (((!((decide (((x0.length : Nat) : Int) < 1)) || (decide (4 < ((x0.length : Nat) : Int))))) && (decide (((x0.getD 0 0).toNat : Int) = 48))) = true)))] [] [1, 1, 6, 9, 0, 9, 9, 13, 13, 9, 4, 18] (cn (((decide (((x0.length : Nat) : Int) < 1)) || (decide (4 < ((x0.length : Nat) : Int)))) || ((decide (((x0.getD 0 0).toNat : Int) = 48)) && (decide (1 < ((x0.length : Nat) : Int))))) (r0 1 [0, 2] [] (rt [] (C23 (-1)))) (r0 1 [0, 2, 3] [] (r0 1 [0, 2, 3, 4] [] (lp (D23b1 x0) [] [] [] (D23b1 x0 0 0) (A23b1 x0))))))
theorem ok_spec_l1Read (x0 : List UInt8) : FnT Tryd.prog 23 [.str x0] (C23 (l1Read x0)) := by
  have aux : ∀ R, l1Read x0 = R → slim (C23 R) (A23 x0) [] := by
    intro R hR
    refine rg trivial ?_
    refine rg ⟨by ((try clear hR); intros; (try simp only [decide_eq_true_eq, decide_eq_false_iff_not, Bool.or_eq_true, Bool.and_eq_true, or_f_iff, not_f_iff, not_t_iff, Bool.not_eq_true', inR] at *); (repeat' apply And.intro) <;> (intros; omega)), by ((try clear hR); intros; (try simp only [decide_eq_true_eq, decide_eq_false_iff_not, Bool.or_eq_true, Bool.and_eq_true, or_f_iff, not_f_iff, not_t_iff, Bool.not_eq_true', inR] at *); (repeat' apply And.intro) <;> (intros; omega)), trivial⟩ ?_
    revert hR; refine cd (fun hc1 hR => ?_) fun hc1 hR => ?_
    ·
      refine rg trivial ?_
      exact congrArg C23 hR
    ·
      refine rg trivial ?_
      refine rg trivial ?_
      revert hR; refine lN (fun i v => 0 ≤ v ∧ v ≤ 9999 ∧ (i = 0 → v = 0) ∧ (i = 1 → v ≤ 9) ∧ (i = 2 → v ≤ 99) ∧ (i = 3 → v ≤ 999)) (by trivial) rfl fun i1 v1 F1 hn1 hI1 hR hK1 => ?_
      refine rg trivial ?_
      refine ⟨fun hc2 => ?_, fun hc2 => ?_⟩
      · have hii1 : i1 < x0.length := by have := of_decide_eq_true hc2; omega
        replace hR := loopN_step hR hii1
        refine rg ⟨by (intros; omega), by (intros; omega), trivial⟩ ?_
        revert hR; refine cd (fun hc3 hR => ?_) fun hc3 hR => ?_
        ·
          refine rg trivial ?_
          exact congrArg C23 hR
        ·
          refine rg ⟨by ( intros; simp only [inR]; omega), by (intros; omega), by ((try clear hR hK1); intros; (try simp only [decide_eq_true_eq, decide_eq_false_iff_not, Bool.or_eq_true, Bool.and_eq_true, or_f_iff, not_f_iff, not_t_iff, Bool.not_eq_true', inR] at *); (repeat' apply And.intro) <;> (intros; omega)), by ((try clear hR hK1); intros; (try simp only [decide_eq_true_eq, decide_eq_false_iff_not, Bool.or_eq_true, Bool.and_eq_true, or_f_iff, not_f_iff, not_t_iff, Bool.not_eq_true', inR] at *); (repeat' apply And.intro) <;> (intros; omega)), by ((try clear hR hK1); intros; (try simp only [decide_eq_true_eq, decide_eq_false_iff_not, Bool.or_eq_true, Bool.and_eq_true, or_f_iff, not_f_iff, not_t_iff, Bool.not_eq_true', inR] at *); (repeat' apply And.intro) <;> (intros; omega)), trivial⟩ ?_
          refine rg ⟨by ((try clear hR hK1); intros; (try simp only [decide_eq_true_eq, decide_eq_false_iff_not, Bool.or_eq_true, Bool.and_eq_true, or_f_iff, not_f_iff, not_t_iff, Bool.not_eq_true', inR] at *); (repeat' apply And.intro) <;> (intros; omega)), trivial⟩ ?_
          exact hK1 ((10 * v1) + (((x0.getD i1 0).toNat : Int) - 48)) hii1 (by ((try clear hR hK1); intros; (try simp only [decide_eq_true_eq, decide_eq_false_iff_not, Bool.or_eq_true, Bool.and_eq_true, or_f_iff, not_f_iff, not_t_iff, Bool.not_eq_true', inR] at *); (repeat' apply And.intro) <;> (intros; omega))) hR
      · obtain rfl : i1 = x0.length := by have := of_decide_eq_false hc2; omega
        replace hR := loopN_end hR (Nat.lt_irrefl _)
        refine rg trivial ?_
        exact congrArg C23 hR
  exact Fn.go 48 Tryd.func23 (by kernel_rfl) (by kernel_rfl) (by simp [C23, Frs, FrsL]) (A23 x0) (by kernel_rfl) (aux _ rfl)
def k23 (x0 : List UInt8) : Cl := (hres (C23 (l1Read x0)), k0 (ok_spec_l1Read x0))
def C25 (R : Int × Bool) : LV × List (Nat × BC) := (.tup [.int .i64 R.1, .bool R.2], [])
def readYear (x0 : List UInt8) : Int × Bool := bif ((decide (((x0.length : Nat) : Int) < 1)) || (decide (4 < ((x0.length : Nat) : Int)))) then (0, false) else (bif (((((atoiE x0).2) || (decide (((atoiE x0).1) < 0))) || (decide (9999 < ((atoiE x0).1)))) || (!((itoa ((atoiE x0).1)) == x0))) then (0, false) else ((atoiE x0).1, true))
def A25 (x0 : List UInt8) : Ann := r0 1 [0, 2, 3] [] (.reg 1 [] [] [0, 2, 3, 13] [] [!(decide (((x0.length : Nat) : Int) < 1)), decide (((x0.length : Nat) : Int) < 1)] [] [] [1, 1, 6] (cn ((decide (((x0.length : Nat) : Int) < 1)) || (decide (4 < ((x0.length : Nat) : Int)))) (r0 1 [0, 2, 3] [] (rt [] (C25 (0, false)))) (.reg 1 [] [(1, k33 x0)] [0, 2, 3, 4, 5] [] [] [] [] [0] (.reg 1 [] [(12, cg (!((((atoiE x0).2) || (decide (((atoiE x0).1) < 0))) || (decide (9999 < ((atoiE x0).1))))) (k20 ((atoiE x0).1)))] [2, 3, 4, 34] [] [!((atoiE x0).2), (atoiE x0).2, !(((atoiE x0).2) || (decide (((atoiE x0).1) < 0))), ((atoiE x0).2) || (decide (((atoiE x0).1) < 0)), !((((atoiE x0).2) || (decide (((atoiE x0).1) < 0))) || (decide (9999 < ((atoiE x0).1)))), (((atoiE x0).2) || (decide (((atoiE x0).1) < 0))) || (decide (9999 < ((atoiE x0).1)))] [] [] [1, 6, 9, 14, 17, 0, 17, 17, 22] (cn (((((atoiE x0).2) || (decide (((atoiE x0).1) < 0))) || (decide (9999 < ((atoiE x0).1)))) || (!((itoa ((atoiE x0).1)) == x0))) (r0 1 [2, 3, 4] [] (rt [] (C25 (0, false)))) (r0 1 [2, 3] [] (rt [] (C25 ((atoiE x0).1, true)))))))))
theorem ok_impl_readYear (x0 : List UInt8) : FnT Tryd.prog 25 [.str x0] (C25 (readYear x0)) := by
  have aux : ∀ R, readYear x0 = R → slim (C25 R) (A25 x0) [] := by
    intro R hR
    refine rg trivial ?_
    refine rg trivial ?_
    revert hR; refine cd (fun hc1 hR => ?_) fun hc1 hR => ?_
    ·
      refine rg trivial ?_
      exact congrArg C25 hR
    ·
      refine rg ⟨by ((try clear hR); intros; (try simp only [decide_eq_true_eq, decide_eq_false_iff_not, Bool.or_eq_true, Bool.and_eq_true, or_f_iff, not_f_iff, not_t_iff, Bool.not_eq_true', inR] at *); (repeat' apply And.intro) <;> (intros; omega)), trivial⟩ ?_
      refine rg ⟨fun hg0 => by ((try clear hR); intros; (try simp only [decide_eq_true_eq, decide_eq_false_iff_not, Bool.or_eq_true, Bool.and_eq_true, or_f_iff, not_f_iff, not_t_iff, Bool.not_eq_true', inR] at *); (repeat' apply And.intro) <;> (intros; omega)), trivial⟩ ?_
      revert hR; refine cd (fun hc2 hR => ?_) fun hc2 hR => ?_
      ·
        refine rg trivial ?_
        exact congrArg C25 hR
      ·
        refine rg trivial ?_
        exact congrArg C25 hR
  exact Fn.go 36 Tryd.func25 (by kernel_rfl) (by kernel_rfl) (by simp [C25, Frs, FrsL]) (A25 x0) (by kernel_rfl) (aux _ rfl)
def k25 (x0 : List UInt8) : Cl := (hres (C25 (readYear x0)), k0 (ok_impl_readYear x0))
end Go.Proofs.YtepefimocflfkabDoor
