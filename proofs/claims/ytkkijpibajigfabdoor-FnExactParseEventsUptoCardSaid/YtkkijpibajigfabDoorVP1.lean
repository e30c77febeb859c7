import Derived.Test.YtkkijpibajigfabDoorM210e
set_option maxHeartbeats 4000000
set_option linter.unusedSimpArgs false
set_option linter.unusedVariables false
namespace Go.Proofs.YtkkijpibajigfabDoor
open Go Go.Lite Go.Proofs
def C41 (R : (List (List UInt8))) : LV × List (Nat × BC) := (.own 0, [(0, .arr 1 R.length (rowOf (cStr) R))])
def splitS (x0 x1 : List UInt8) : List (List UInt8) := pieces (x1.getD 0 0) x0
theorem splitS_len (x0 x1 : List UInt8) : (splitS x0 x1).length ≤ x0.length + 1 := (pieces_len _ _).2
theorem splitS_mem (x0 x1 : List UInt8) (k : Nat) : ((splitS x0 x1).getD k default).length ≤ x0.length := by
  rw [List.getD_eq_getElem?_getD]
  cases e : (splitS x0 x1)[k]? with
  | none => exact Nat.zero_le _
  | some p => exact pieces_mem _ _ p (List.mem_of_getElem? e)
theorem ok_strings_Split (x0 : List UInt8) (x1 : List UInt8) (h : x0.length ≤ 1048576 ∧ x1.length = 1) : FnT Tryd.prog 41 [.str x0, .str x1] (C41 (splitS x0 x1)) := by
  obtain ⟨c, rfl⟩ := List.length_eq_one_iff.1 h.2
  refine Fn.of_strs (T := 9) args_str2 (by have := splitS_len x0 [c]; unfold maxLen; omega) fun w hg => ?_
  obtain ⟨_, _, ⟨m, hm⟩, _⟩ := hg
  refine (Tryd.strings_Split ⟨x0.toArray⟩ ⟨#[c]⟩ m w (by show x0.toArray.size < _; simp; omega) hm (Nat.le_refl 1)).mono fun e w' ⟨he, hw⟩ => ⟨?_, ?_⟩
  · rw [he, pieces_count]; rfl
  · rw [hw, splitB_pieces]; rfl
def k41 (x0 : List UInt8) (x1 : List UInt8) : Cl := (hres (C41 (splitS x0 x1)), k1 (ok_strings_Split x0 x1))
def C60 (R : Int × Bool) : LV × List (Nat × BC) := (.tup [.int .i64 R.1, .er R.2], [])
def atoiE (x0 : List UInt8) : Int × Bool := match Lib.atoi x0 with
  | some n => (n, false)
  | none => (0, true)
theorem atoiE_some {x0 : List UInt8} {n : Int} (e : Lib.atoi x0 = some n) : atoiE x0 = (n, false) := by unfold atoiE; rw [e]
theorem atoiE_none {x0 : List UInt8} (e : Lib.atoi x0 = none) : atoiE x0 = (0, true) := by unfold atoiE; rw [e]
theorem ok_strconv_Atoi (x0 : List UInt8) (h : x0.length ≤ 18) : FnT Tryd.prog 60 [.str x0] (C60 (atoiE x0)) := by
  have hs : (⟨x0.toArray⟩ : ByteArray).size ≤ 18 := by show x0.toArray.size ≤ 18; simpa using h
  cases e : Lib.atoi x0 with
  | some n =>
    rw [atoiE_some e]
    exact Fn.of_intErr args_str fun w _ => (Tryd.strconv_Atoi ⟨x0.toArray⟩ n hs (by simpa using e) w).mono fun e w' ⟨he, t, hw⟩ => ⟨_, he, fun _ => rfl, fun h => (by cases h), by rw [hw]; exact Lib.bytesWorld_below _ _ _⟩
  | none =>
    rw [atoiE_none e]
    refine Fn.of_intErr args_str fun w hg => ?_
    obtain ⟨_, _, _, te, pe, hv⟩ := hg
    exact (Tryd.strconv_Atoi_err ⟨x0.toArray⟩ hs (by simpa using e) _ w hv (.inr ⟨te, pe, rfl⟩)).mono fun e w' ⟨N, he, _, _, hb⟩ => ⟨_, he, fun h => (by cases h), fun _ => ⟨_, _, rfl⟩, hb⟩
def k60 (x0 : List UInt8) : Cl := (hres (C60 (atoiE x0)), k1 (ok_strconv_Atoi x0))
def C58 (R : Bool) : LV × List (Nat × BC) := (.bool R, [])
def slSuf (x0 : List UInt8) (x1 : List UInt8) : Bool := (decide (((x1.length : Nat) : Int) ≤ ((x0.length : Nat) : Int))) && (((x0.drop ((((x0.length : Nat) : Int) - ((x1.length : Nat) : Int)).toNat)).take (x0.length - ((((x0.length : Nat) : Int) - ((x1.length : Nat) : Int)).toNat))) == x1)
def A58 (x0 : List UInt8) (x1 : List UInt8) : Ann := .reg 2 [] [] [4] [] [decide (((x1.length : Nat) : Int) ≤ ((x0.length : Nat) : Int))] [gt (decide (((x1.length : Nat) : Int) ≤ ((x0.length : Nat) : Int))) (pf (inR .i64 (((x0.length : Nat) : Int) - ((x1.length : Nat) : Int)))), gt (decide (((x1.length : Nat) : Int) ≤ ((x0.length : Nat) : Int))) (pf (0 ≤ (((x0.length : Nat) : Int) - ((x1.length : Nat) : Int) : Int) ∧ (((x0.length : Nat) : Int) - ((x1.length : Nat) : Int) : Int) ≤ ((x0.length : Nat) : Int) ∧ (((x0.length : Nat) : Int) : Int) ≤ ((x0.length : Nat) : Int)))] [] [1, 1, 1, 1, 0, 1, 1, 4, 1, 1, 1] (rt [] (C58 ((decide (((x1.length : Nat) : Int) ≤ ((x0.length : Nat) : Int))) && (((x0.drop ((((x0.length : Nat) : Int) - ((x1.length : Nat) : Int)).toNat)).take (x0.length - ((((x0.length : Nat) : Int) - ((x1.length : Nat) : Int)).toNat))) == x1))))
theorem ok_stringslite_HasSuffix (x0 : List UInt8) (x1 : List UInt8) (h : x0.length ≤ 1048576 ∧ x1.length ≤ 1048576) : FnT Tryd.prog 58 [.str x0, .str x1] (C58 (slSuf x0 x1)) := by
  have aux : ∀ R, slSuf x0 x1 = R → slim (C58 R) (A58 x0 x1) [] := by
    intro R hR
    refine rg ⟨by ( intros; simp only [inR]; omega), by ((try clear hR); intros; (try simp only [decide_eq_true_eq, decide_eq_false_iff_not, Bool.or_eq_true, Bool.and_eq_true, or_f_iff, not_f_iff, not_t_iff, Bool.not_eq_true', inR] at *); (repeat' apply And.intro) <;> (intros; omega)), trivial⟩ ?_
    exact congrArg C58 hR
  exact Fn.go 21 Tryd.func58 (by kernel_rfl) (by kernel_rfl) (by simp [C58, Frs, FrsL]) (A58 x0 x1) (by kernel_rfl) (aux _ rfl)
def k58 (x0 : List UInt8) (x1 : List UInt8) : Cl := (hres (C58 (slSuf x0 x1)), k1 (ok_stringslite_HasSuffix x0 x1))
def C40 (R : Bool) : LV × List (Nat × BC) := (.bool R, [])
def hasSuf (x0 : List UInt8) (x1 : List UInt8) : Bool := slSuf x0 x1
def A40 (x0 : List UInt8) (x1 : List UInt8) : Ann := .reg 2 [] [(1002, k58 x0 x1)] [4] [] [] [] [] [0] (rt [] (C40 (slSuf x0 x1)))
theorem ok_strings_HasSuffix (x0 : List UInt8) (x1 : List UInt8) (h : x0.length ≤ 1048576 ∧ x1.length ≤ 1048576) : FnT Tryd.prog 40 [.str x0, .str x1] (C40 (hasSuf x0 x1)) := by
  have aux : ∀ R, hasSuf x0 x1 = R → slim (C40 R) (A40 x0 x1) [] := by
    intro R hR
    refine rg ⟨by trivial, trivial⟩ ?_
    exact congrArg C40 hR
  exact Fn.go 8 Tryd.func40 (by kernel_rfl) (by kernel_rfl) (by simp [C40, Frs, FrsL]) (A40 x0 x1) (by kernel_rfl) (aux _ rfl)
def k40 (x0 : List UInt8) (x1 : List UInt8) : Cl := (hres (C40 (hasSuf x0 x1)), k1 (ok_strings_HasSuffix x0 x1))
def C26 (R : (List (List UInt8))) : LV × List (Nat × BC) := (.own 0, [(0, .arr 1 R.length (rowOf (cStr) R))])
def l1Split (x0 : List UInt8) (x1 : Int) : (List (List UInt8)) := loopN (fun i1 (v1 : (List (List UInt8)) × Int) next => bif (decide (((x0.getD i1 0).toNat : Int) = x1)) then (next ((v1.1 ++ ([(x0.drop v1.2.toNat).take (i1 - v1.2.toNat)] : List (List UInt8))), ((i1 : Nat) : Int) + 1)) else (next (v1.1, v1.2))) (fun (v1 : (List (List UInt8)) × Int) => (v1.1 ++ ([(x0.drop v1.2.toNat).take (x0.length - v1.2.toNat)] : List (List UInt8)))) x0.length 0 (([] : List (List UInt8)), 0)
def D26b1 (x0 : List UInt8) (x1 : Int) (i1 : Nat) (v1 : (List (List UInt8)) × Int) : Dl := ⟨[(7, .int .i64 ((i1 : Nat) : Int)), (5, .own 20005), (6, .int .i64 v1.2)], [(20005, .arr 1 v1.1.length (rowOf (cStr) v1.1))]⟩
def A26b1 (x0 : List UInt8) (x1 : Int) (i1 : Nat) (v1 : (List (List UInt8)) × Int) : Ann := r0 1 [0, 1, 4, 5, 6, 7, 12] [20005] (cn (decide (((i1 : Nat) : Int) < ((x0.length : Nat) : Int))) (r1 1 [0, 1, 4, 5, 6, 7, 19] [20005] [pf (0 ≤ (((i1 : Nat) : Int) : Int) ∧ (((i1 : Nat) : Int) : Int) < ((x0.length : Nat) : Int))] [0] (cn (decide (((x0.getD i1 0).toNat : Int) = x1)) (.reg 1 [] [(5, bsC 25 (cStr) (([(x0.drop v1.2.toNat).take (i1 - v1.2.toNat)] : List (List UInt8)) : List (List UInt8))), (6, apC 26 (cStr) 16 v1.1 ([(x0.drop v1.2.toNat).take (i1 - v1.2.toNat)] : List (List UInt8)))] [0, 1, 4, 5, 6, 7] [26] [] [pf (0 ≤ (v1.2 : Int) ∧ (v1.2 : Int) ≤ ((i1 : Nat) : Int) ∧ (((i1 : Nat) : Int) : Int) ≤ ((x0.length : Nat) : Int))] [] [0, 4, 8] (r1 1 [0, 1, 4, 5, 6, 7] [26] [pf (inR .i64 (((i1 : Nat) : Int) + 1))] [0] (r1 1 [0, 1, 4, 5, 6, 7] [26] [pf (inR .i64 (((i1 : Nat) : Int) + 1))] [0] (.next 0 [(20005, some 26)] (D26b1 x0 x1 (i1 + 1) ((v1.1 ++ ([(x0.drop v1.2.toNat).take (i1 - v1.2.toNat)] : List (List UInt8))), ((i1 : Nat) : Int) + 1)))))) (r1 1 [0, 1, 4, 5, 6, 7] [20005] [pf (inR .i64 (((i1 : Nat) : Int) + 1))] [0] (.next 0 [(20005, some 20005)] (D26b1 x0 x1 (i1 + 1) (v1.1, v1.2)))))) (.reg 1 [] [(4, bsC 33 (cStr) (([(x0.drop v1.2.toNat).take (x0.length - v1.2.toNat)] : List (List UInt8)) : List (List UInt8))), (5, apC 34 (cStr) 16 v1.1 ([(x0.drop v1.2.toNat).take (x0.length - v1.2.toNat)] : List (List UInt8)))] [4] [34] [] [pf (0 ≤ (v1.2 : Int) ∧ (v1.2 : Int) ≤ ((x0.length : Nat) : Int) ∧ (((x0.length : Nat) : Int) : Int) ≤ ((x0.length : Nat) : Int))] [] [0, 4, 8] (rt [(0, some 34)] (C26 (v1.1 ++ ([(x0.drop v1.2.toNat).take (x0.length - v1.2.toNat)] : List (List UInt8)))))))
def A26 (x0 : List UInt8) (x1 : Int) : Ann := .reg 3 [] [(1000, bsC 8 (cStr) ([] : List (List UInt8)))] [0, 1, 4, 5, 6] [8] [] [] [] [0] (r0 1 [0, 1, 4, 5, 6, 7] [8] (lp (D26b1 x0 x1) [] [8] [(20005, some 8)] (D26b1 x0 x1 0 (([] : List (List UInt8)), 0)) (A26b1 x0 x1)))
theorem ok_spec_l1Split (x0 : List UInt8) (x1 : Int) (h : x0.length ≤ 1048576) : FnT Tryd.prog 26 [.str x0, .int .u8 x1] (C26 (l1Split x0 x1)) := by
  have aux : ∀ R, l1Split x0 x1 = R → slim (C26 R) (A26 x0 x1) [] := by
    intro R hR
    refine rg ⟨trivial, trivial⟩ ?_
    refine rg trivial ?_
    revert hR; refine lN (fun i v => v.1.length ≤ i ∧ 0 ≤ v.2 ∧ v.2 ≤ i) (by trivial) rfl fun i1 v1 F1 hn1 hI1 hR hK1 => ?_
    refine rg trivial ?_
    refine ⟨fun hc1 => ?_, fun hc1 => ?_⟩
    · have hii1 : i1 < x0.length := by have := of_decide_eq_true hc1; omega
      replace hR := loopN_step hR hii1
      refine rg ⟨by (intros; omega), trivial⟩ ?_
      revert hR; refine cd (fun hc2 hR => ?_) fun hc2 hR => ?_
      ·
        refine rg ⟨by (intros; omega), trivial, by (simp; omega), trivial⟩ ?_
        refine rg ⟨by ( intros; simp only [inR]; omega), trivial⟩ ?_
        refine rg ⟨by ( intros; simp only [inR]; omega), trivial⟩ ?_
        exact hK1 ((v1.1 ++ ([(x0.drop v1.2.toNat).take (i1 - v1.2.toNat)] : List (List UInt8))), ((i1 : Nat) : Int) + 1) hii1 (by ((try clear hR hK1); intros; (try simp only [decide_eq_true_eq, decide_eq_false_iff_not, Bool.or_eq_true, Bool.and_eq_true, or_f_iff, not_f_iff, not_t_iff, Bool.not_eq_true', inR] at *); (repeat' apply And.intro) <;> (first | (intros; omega) | (simp_all [inR]; done)))) hR
      ·
        refine rg ⟨by ( intros; simp only [inR]; omega), trivial⟩ ?_
        exact hK1 (v1.1, v1.2) hii1 (by ( intros; simp only [inR]; omega)) hR
    · obtain rfl : i1 = x0.length := by have := of_decide_eq_false hc1; omega
      replace hR := loopN_end hR (Nat.lt_irrefl _)
      refine rg ⟨by (intros; omega), trivial, by (simp; omega), trivial⟩ ?_
      exact congrArg C26 hR
  exact Fn.go 35 Tryd.func26 (by kernel_rfl) (by kernel_rfl) (by simp [C26, Frs, FrsL, FrsB, rowOf, cInt, cBool, cStr, cSl, FrsL_app, cPerson, cUnion, cFamily, cEvent]) (A26 x0 x1) (by kernel_rfl) (aux _ rfl)
def k26 (x0 : List UInt8) (x1 : Int) : Cl := (hres (C26 (l1Split x0 x1)), k1 (ok_spec_l1Split x0 x1))
def C37 (R : Int) : LV × List (Nat × BC) := (.int .i64 R, [])
def l1Read (x0 : List UInt8) : Int := bif (((decide (((x0.length : Nat) : Int) < 1)) || (decide (4 < ((x0.length : Nat) : Int)))) || ((decide (((x0.getD 0 0).toNat : Int) = 48)) && (decide (1 < ((x0.length : Nat) : Int))))) then (-1) else (loopN (fun i1 (v1 : Int) next => bif ((decide (((x0.getD i1 0).toNat : Int) < 48)) || (decide (57 < ((x0.getD i1 0).toNat : Int)))) then (-1) else (next ((10 * v1) + (((x0.getD i1 0).toNat : Int) - 48)))) (fun (v1 : Int) => v1) x0.length 0 0)
def D37b1 (x0 : List UInt8) (i1 : Nat) (v1 : Int) : Dl := ⟨[(4, .int .i64 ((i1 : Nat) : Int)), (3, .int .i64 v1)], []⟩
def A37b1 (x0 : List UInt8) (i1 : Nat) (v1 : Int) : Ann := r0 1 [0, 2, 3, 4, 26] [] (cn (decide (((i1 : Nat) : Int) < ((x0.length : Nat) : Int))) (.reg 1 [] [] [0, 2, 3, 4, 38] [] [!(decide (((x0.getD i1 0).toNat : Int) < 48)), decide (((x0.getD i1 0).toNat : Int) < 48)] [pf (0 ≤ (((i1 : Nat) : Int) : Int) ∧ (((i1 : Nat) : Int) : Int) < ((x0.length : Nat) : Int)), gt (!(decide (((x0.getD i1 0).toNat : Int) < 48))) (pf (0 ≤ (((i1 : Nat) : Int) : Int) ∧ (((i1 : Nat) : Int) : Int) < ((x0.length : Nat) : Int)))] [] [0, 1, 1, 4, 1, 6] (cn ((decide (((x0.getD i1 0).toNat : Int) < 48)) || (decide (57 < ((x0.getD i1 0).toNat : Int)))) (r0 1 [0, 2, 3, 4] [] (rt [] (C37 (-1)))) (r1 1 [0, 2, 3, 4] [] [pf (inR .i64 (10 * v1)), pf (0 ≤ (((i1 : Nat) : Int) : Int) ∧ (((i1 : Nat) : Int) : Int) < ((x0.length : Nat) : Int)), pf (inR .u8 (((x0.getD i1 0).toNat : Int) - 48)), pf (inR .i64 (((x0.getD i1 0).toNat : Int) - 48)), pf (inR .i64 ((10 * v1) + (((x0.getD i1 0).toNat : Int) - 48)))] [0, 4, 8, 12, 16] (r1 1 [0, 2, 3, 4] [] [pf (inR .i64 (((i1 : Nat) : Int) + 1))] [0] (.next 0 [] (D37b1 x0 (i1 + 1) ((10 * v1) + (((x0.getD i1 0).toNat : Int) - 48)))))))) (r0 1 [2] [] (rt [] (C37 v1))))
def A37 (x0 : List UInt8) : Ann := r0 1 [0, 2] [] (.reg 1 [] [] [0, 2, 22] [] [!(decide (((x0.length : Nat) : Int) < 1)), decide (((x0.length : Nat) : Int) < 1), !((decide (((x0.length : Nat) : Int) < 1)) || (decide (4 < ((x0.length : Nat) : Int)))), (!((decide (((x0.length : Nat) : Int) < 1)) || (decide (4 < ((x0.length : Nat) : Int))))) && (decide (((x0.getD 0 0).toNat : Int) = 48)), (decide (((x0.length : Nat) : Int) < 1)) || (decide (4 < ((x0.length : Nat) : Int)))] [gt (!((decide (((x0.length : Nat) : Int) < 1)) || (decide (4 < ((x0.length : Nat) : Int))))) (pf (0 ≤ (0 : Int) ∧ (0 : Int) < ((x0.length : Nat) : Int))), gt (!((decide (((x0.length : Nat) : Int) < 1)) || (decide (4 < ((x0.length : Nat) : Int))))) (gt (decide (((x0.getD 0 0).toNat : Int) = 48)) (pf (((!((decide (((x0.length : Nat) : Int) < 1)) || (decide (4 < ((x0.length : Nat) : Int))))) && (decide (((x0.getD 0 0).toNat : Int) = 48))) = true)))] [] [1, 1, 6, 9, 0, 9, 9, 13, 13, 9, 4, 18] (cn (((decide (((x0.length : Nat) : Int) < 1)) || (decide (4 < ((x0.length : Nat) : Int)))) || ((decide (((x0.getD 0 0).toNat : Int) = 48)) && (decide (1 < ((x0.length : Nat) : Int))))) (r0 1 [0, 2] [] (rt [] (C37 (-1)))) (r0 1 [0, 2, 3] [] (r0 1 [0, 2, 3, 4] [] (lp (D37b1 x0) [] [] [] (D37b1 x0 0 0) (A37b1 x0))))))
theorem ok_spec_l1Read (x0 : List UInt8) : FnT Tryd.prog 37 [.str x0] (C37 (l1Read x0)) := by
  have aux : ∀ R, l1Read x0 = R → slim (C37 R) (A37 x0) [] := by
    intro R hR
    refine rg trivial ?_
    refine rg ⟨by ((try clear hR); intros; (try simp only [decide_eq_true_eq, decide_eq_false_iff_not, Bool.or_eq_true, Bool.and_eq_true, or_f_iff, not_f_iff, not_t_iff, Bool.not_eq_true', inR] at *); (repeat' apply And.intro) <;> (intros; omega)), by ((try clear hR); intros; (try simp only [decide_eq_true_eq, decide_eq_false_iff_not, Bool.or_eq_true, Bool.and_eq_true, or_f_iff, not_f_iff, not_t_iff, Bool.not_eq_true', inR] at *); (repeat' apply And.intro) <;> (intros; omega)), trivial⟩ ?_
    revert hR; refine cd (fun hc1 hR => ?_) fun hc1 hR => ?_
    ·
      refine rg trivial ?_
      exact congrArg C37 hR
    ·
      refine rg trivial ?_
      refine rg trivial ?_
      revert hR; refine lN (fun i v => 0 ≤ v ∧ v ≤ 9999 ∧ (i = 0 → v = 0) ∧ (i = 1 → v ≤ 9) ∧ (i = 2 → v ≤ 99) ∧ (i = 3 → v ≤ 999)) (by trivial) rfl fun i1 v1 F1 hn1 hI1 hR hK1 => ?_
      refine rg trivial ?_
      refine ⟨fun hc2 => ?_, fun hc2 => ?_⟩
      · have hii1 : i1 < x0.length := by have := of_decide_eq_true hc2; omega
        replace hR := loopN_step hR hii1
        refine rg ⟨by (intros; omega), by (intros; omega), trivial⟩ ?_
        revert hR; refine cd (fun hc3 hR => ?_) fun hc3 hR => ?_
        ·
          refine rg trivial ?_
          exact congrArg C37 hR
        ·
          refine rg ⟨by ( intros; simp only [inR]; omega), by (intros; omega), by ((try clear hR hK1); intros; (try simp only [decide_eq_true_eq, decide_eq_false_iff_not, Bool.or_eq_true, Bool.and_eq_true, or_f_iff, not_f_iff, not_t_iff, Bool.not_eq_true', inR] at *); (repeat' apply And.intro) <;> (intros; omega)), by ((try clear hR hK1); intros; (try simp only [decide_eq_true_eq, decide_eq_false_iff_not, Bool.or_eq_true, Bool.and_eq_true, or_f_iff, not_f_iff, not_t_iff, Bool.not_eq_true', inR] at *); (repeat' apply And.intro) <;> (intros; omega)), by ((try clear hR hK1); intros; (try simp only [decide_eq_true_eq, decide_eq_false_iff_not, Bool.or_eq_true, Bool.and_eq_true, or_f_iff, not_f_iff, not_t_iff, Bool.not_eq_true', inR] at *); (repeat' apply And.intro) <;> (intros; omega)), trivial⟩ ?_
          refine rg ⟨by ((try clear hR hK1); intros; (try simp only [decide_eq_true_eq, decide_eq_false_iff_not, Bool.or_eq_true, Bool.and_eq_true, or_f_iff, not_f_iff, not_t_iff, Bool.not_eq_true', inR] at *); (repeat' apply And.intro) <;> (intros; omega)), trivial⟩ ?_
          exact hK1 ((10 * v1) + (((x0.getD i1 0).toNat : Int) - 48)) hii1 (by ((try clear hR hK1); intros; (try simp only [decide_eq_true_eq, decide_eq_false_iff_not, Bool.or_eq_true, Bool.and_eq_true, or_f_iff, not_f_iff, not_t_iff, Bool.not_eq_true', inR] at *); (repeat' apply And.intro) <;> (intros; omega))) hR
      · obtain rfl : i1 = x0.length := by have := of_decide_eq_false hc2; omega
        replace hR := loopN_end hR (Nat.lt_irrefl _)
        refine rg trivial ?_
        exact congrArg C37 hR
  exact Fn.go 48 Tryd.func37 (by kernel_rfl) (by kernel_rfl) (by simp [C37, Frs, FrsL]) (A37 x0) (by kernel_rfl) (aux _ rfl)
def k37 (x0 : List UInt8) : Cl := (hres (C37 (l1Read x0)), k0 (ok_spec_l1Read x0))
def C42 (R : Int × Bool) : LV × List (Nat × BC) := (.tup [.int .i64 R.1, .bool R.2], [])
def readYear (x0 : List UInt8) : Int × Bool := bif ((decide (((x0.length : Nat) : Int) < 1)) || (decide (4 < ((x0.length : Nat) : Int)))) then (0, false) else (bif (((((atoiE x0).2) || (decide (((atoiE x0).1) < 0))) || (decide (9999 < ((atoiE x0).1)))) || (!((itoa ((atoiE x0).1)) == x0))) then (0, false) else ((atoiE x0).1, true))
def A42 (x0 : List UInt8) : Ann := r0 1 [0, 2, 3] [] (.reg 1 [] [] [0, 2, 3, 13] [] [!(decide (((x0.length : Nat) : Int) < 1)), decide (((x0.length : Nat) : Int) < 1)] [] [] [1, 1, 6] (cn ((decide (((x0.length : Nat) : Int) < 1)) || (decide (4 < ((x0.length : Nat) : Int)))) (r0 1 [0, 2, 3] [] (rt [] (C42 (0, false)))) (.reg 1 [] [(1, k60 x0)] [0, 2, 3, 4, 5] [] [] [] [] [0] (.reg 1 [] [(12, cg (!((((atoiE x0).2) || (decide (((atoiE x0).1) < 0))) || (decide (9999 < ((atoiE x0).1))))) (k21 ((atoiE x0).1)))] [2, 3, 4, 34] [] [!((atoiE x0).2), (atoiE x0).2, !(((atoiE x0).2) || (decide (((atoiE x0).1) < 0))), ((atoiE x0).2) || (decide (((atoiE x0).1) < 0)), !((((atoiE x0).2) || (decide (((atoiE x0).1) < 0))) || (decide (9999 < ((atoiE x0).1)))), (((atoiE x0).2) || (decide (((atoiE x0).1) < 0))) || (decide (9999 < ((atoiE x0).1)))] [] [] [1, 6, 9, 14, 17, 0, 17, 17, 22] (cn (((((atoiE x0).2) || (decide (((atoiE x0).1) < 0))) || (decide (9999 < ((atoiE x0).1)))) || (!((itoa ((atoiE x0).1)) == x0))) (r0 1 [2, 3, 4] [] (rt [] (C42 (0, false)))) (r0 1 [2, 3] [] (rt [] (C42 ((atoiE x0).1, true)))))))))
theorem ok_impl_readYear (x0 : List UInt8) : FnT Tryd.prog 42 [.str x0] (C42 (readYear x0)) := by
  have aux : ∀ R, readYear x0 = R → slim (C42 R) (A42 x0) [] := by
    intro R hR
    refine rg trivial ?_
    refine rg trivial ?_
    revert hR; refine cd (fun hc1 hR => ?_) fun hc1 hR => ?_
    ·
      refine rg trivial ?_
      exact congrArg C42 hR
    ·
      refine rg ⟨by ((try clear hR); intros; (try simp only [decide_eq_true_eq, decide_eq_false_iff_not, Bool.or_eq_true, Bool.and_eq_true, or_f_iff, not_f_iff, not_t_iff, Bool.not_eq_true', inR] at *); (repeat' apply And.intro) <;> (intros; omega)), trivial⟩ ?_
      refine rg ⟨fun hg0 => by ((try clear hR); intros; (try simp only [decide_eq_true_eq, decide_eq_false_iff_not, Bool.or_eq_true, Bool.and_eq_true, or_f_iff, not_f_iff, not_t_iff, Bool.not_eq_true', inR] at *); (repeat' apply And.intro) <;> (intros; omega)), trivial⟩ ?_
      revert hR; refine cd (fun hc2 hR => ?_) fun hc2 hR => ?_
      ·
        refine rg trivial ?_
        exact congrArg C42 hR
      ·
        refine rg trivial ?_
        exact congrArg C42 hR
  exact Fn.go 36 Tryd.func42 (by kernel_rfl) (by kernel_rfl) (by simp [C42, Frs, FrsL]) (A42 x0) (by kernel_rfl) (aux _ rfl)
def k42 (x0 : List UInt8) : Cl := (hres (C42 (readYear x0)), k0 (ok_impl_readYear x0))
def C39 (R : Int × Bool) : LV × List (Nat × BC) := (.tup [.int .i64 R.1, .bool R.2], [])
def l1Find (x0 : Family) (x1 : List UInt8) : Int × Bool := loopN (fun i1 (v1 : Unit) next => bif (((x0.people.getD i1 default).name) == x1) then (((i1 : Nat) : Int), true) else (next ())) (fun (v1 : Unit) => (0, false)) x0.people.length 0 ()
def D39b1 (x0 : Family) (x1 : List UInt8) (i1 : Nat) (v1 : Unit) : Dl := ⟨[(11, .int .i64 ((i1 : Nat) : Int))], []⟩
def A39b1 (x0 : Family) (x1 : List UInt8) (i1 : Nat) (v1 : Unit) : Ann := r0 1 [1, 4, 5, 9, 10, 11, 12] [] (cn (decide (((i1 : Nat) : Int) < ((x0.people.length : Nat) : Int))) (r1 2 [1, 4, 5, 6, 9, 10, 11, 19] [] [pf (0 ≤ (((i1 : Nat) : Int) : Int) ∧ (((i1 : Nat) : Int) : Int) < ((x0.people.length : Nat) : Int))] [0] (cn (((x0.people.getD i1 default).name) == x1) (r0 1 [1, 4, 5, 9, 10, 11] [] (rt [] (C39 (((i1 : Nat) : Int), true)))) (r1 1 [1, 4, 5, 9, 10, 11] [] [pf (inR .i64 (((i1 : Nat) : Int) + 1))] [0] (.next 0 [] (D39b1 x0 x1 (i1 + 1) ()))))) (r0 1 [4, 5] [] (rt [] (C39 (0, false)))))
def A39 (x0 : Family) (x1 : List UInt8) : Ann := r0 1 [1, 2, 4, 5] [2] (r0 1 [1, 4, 5, 9, 10, 11] [] (lp (D39b1 x0 x1) [] [] [] (D39b1 x0 x1 0 ()) (A39b1 x0 x1)))
theorem ok_spec_l1Find (x0 : Family) (x1 : List UInt8) (hx : x0.people.length ≤ 1048576) : FnT Tryd.prog 39 [.agg (cFamily false x0), .str x1] (C39 (l1Find x0 x1)) := by
  have aux : ∀ R, l1Find x0 x1 = R → slim (C39 R) (A39 x0 x1) [] := by
    intro R hR
    refine rg trivial ?_
    refine rg trivial ?_
    revert hR; refine lN (fun i v => True) (by trivial) rfl fun i1 v1 F1 hn1 hI1 hR hK1 => ?_
    refine rg trivial ?_
    refine ⟨fun hc1 => ?_, fun hc1 => ?_⟩
    · have hii1 : i1 < x0.people.length := by have := of_decide_eq_true hc1; omega
      replace hR := loopN_step hR hii1
      refine rg ⟨by (intros; omega), trivial⟩ ?_
      revert hR; refine cd (fun hc2 hR => ?_) fun hc2 hR => ?_
      ·
        refine rg trivial ?_
        exact congrArg C39 hR
      ·
        refine rg ⟨by ( intros; simp only [inR]; omega), trivial⟩ ?_
        exact hK1 () hii1 (by trivial) hR
    · obtain rfl : i1 = x0.people.length := by have := of_decide_eq_false hc1; omega
      replace hR := loopN_end hR (Nat.lt_irrefl _)
      refine rg trivial ?_
      exact congrArg C39 hR
  exact Fn.go 22 Tryd.func39 (by kernel_rfl) (by kernel_rfl) (by simp [C39, Frs, FrsL]) (A39 x0 x1) (by kernel_rfl) (aux _ rfl)
def k39 (x0 : Family) (x1 : List UInt8) : Cl := (hres (C39 (l1Find x0 x1)), k1 (ok_spec_l1Find x0 x1))
def C38 (R : Int × Bool) : LV × List (Nat × BC) := (.tup [.int .i64 R.1, .bool R.2], [])
def l1Index (x0 : Family) (x1 : List UInt8) : Int × Bool := bif (x1 == [45]) then ((-1), true) else ((l1Find x0 x1).1, (l1Find x0 x1).2)
def A38 (x0 : Family) (x1 : List UInt8) : Ann := r0 1 [1, 2, 4, 5] [2] (r0 1 [1, 2, 4, 5, 7] [2] (cn (x1 == [45]) (r0 1 [1, 2, 4, 5] [2] (rt [] (C38 ((-1), true)))) (.reg 1 [] [(2, k39 x0 x1)] [4, 5] [] [] [] [] [0] (rt [] (C38 ((l1Find x0 x1).1, (l1Find x0 x1).2))))))
theorem ok_spec_l1Index (x0 : Family) (x1 : List UInt8) (hx : x0.people.length ≤ 1048576) : FnT Tryd.prog 38 [.agg (cFamily false x0), .str x1] (C38 (l1Index x0 x1)) := by
  have aux : ∀ R, l1Index x0 x1 = R → slim (C38 R) (A38 x0 x1) [] := by
    intro R hR
    refine rg trivial ?_
    refine rg trivial ?_
    revert hR; refine cd (fun hc1 hR => ?_) fun hc1 hR => ?_
    ·
      refine rg trivial ?_
      exact congrArg C38 hR
    ·
      refine rg ⟨by trivial, trivial⟩ ?_
      exact congrArg C38 hR
  exact Fn.go 13 Tryd.func38 (by kernel_rfl) (by kernel_rfl) (by simp [C38, Frs, FrsL]) (A38 x0 x1) (by kernel_rfl) (aux _ rfl)
def k38 (x0 : Family) (x1 : List UInt8) : Cl := (hres (C38 (l1Index x0 x1)), k1 (ok_spec_l1Index x0 x1))
def C45 (R : Int × Bool) : LV × List (Nat × BC) := (.tup [.int .i64 R.1, .bool R.2], [])
def findP (x0 : Family) (x1 : List UInt8) : Int × Bool := loopN (fun i1 (v1 : Unit) next => bif (((x0.people.getD i1 default).name) == x1) then (((i1 : Nat) : Int), true) else (next ())) (fun (v1 : Unit) => (0, false)) x0.people.length 0 ()
def D45b1 (x0 : Family) (x1 : List UInt8) (i1 : Nat) (v1 : Unit) : Dl := ⟨[(11, .int .i64 ((i1 : Nat) : Int))], []⟩
def A45b1 (x0 : Family) (x1 : List UInt8) (i1 : Nat) (v1 : Unit) : Ann := r0 1 [1, 4, 5, 9, 10, 11, 12] [] (cn (decide (((i1 : Nat) : Int) < ((x0.people.length : Nat) : Int))) (r1 2 [1, 4, 5, 6, 9, 10, 11, 19] [] [pf (0 ≤ (((i1 : Nat) : Int) : Int) ∧ (((i1 : Nat) : Int) : Int) < ((x0.people.length : Nat) : Int))] [0] (cn (((x0.people.getD i1 default).name) == x1) (r0 1 [1, 4, 5, 9, 10, 11] [] (rt [] (C45 (((i1 : Nat) : Int), true)))) (r1 1 [1, 4, 5, 9, 10, 11] [] [pf (inR .i64 (((i1 : Nat) : Int) + 1))] [0] (.next 0 [] (D45b1 x0 x1 (i1 + 1) ()))))) (r0 1 [4, 5] [] (rt [] (C45 (0, false)))))
def A45 (x0 : Family) (x1 : List UInt8) : Ann := r0 1 [1, 2, 4, 5] [2] (r0 1 [1, 4, 5, 9, 10, 11] [] (lp (D45b1 x0 x1) [] [] [] (D45b1 x0 x1 0 ()) (A45b1 x0 x1)))
theorem ok_impl_findPerson (x0 : Family) (x1 : List UInt8) (hx : x0.people.length ≤ 1048576) : FnT Tryd.prog 45 [.agg (cFamily false x0), .str x1] (C45 (findP x0 x1)) := by
  have aux : ∀ R, findP x0 x1 = R → slim (C45 R) (A45 x0 x1) [] := by
    intro R hR
    refine rg trivial ?_
    refine rg trivial ?_
    revert hR; refine lN (fun i v => True) (by trivial) rfl fun i1 v1 F1 hn1 hI1 hR hK1 => ?_
    refine rg trivial ?_
    refine ⟨fun hc1 => ?_, fun hc1 => ?_⟩
    · have hii1 : i1 < x0.people.length := by have := of_decide_eq_true hc1; omega
      replace hR := loopN_step hR hii1
      refine rg ⟨by (intros; omega), trivial⟩ ?_
      revert hR; refine cd (fun hc2 hR => ?_) fun hc2 hR => ?_
      ·
        refine rg trivial ?_
        exact congrArg C45 hR
      ·
        refine rg ⟨by ( intros; simp only [inR]; omega), trivial⟩ ?_
        exact hK1 () hii1 (by trivial) hR
    · obtain rfl : i1 = x0.people.length := by have := of_decide_eq_false hc1; omega
      replace hR := loopN_end hR (Nat.lt_irrefl _)
      refine rg trivial ?_
      exact congrArg C45 hR
  exact Fn.go 22 Tryd.func45 (by kernel_rfl) (by kernel_rfl) (by simp [C45, Frs, FrsL]) (A45 x0 x1) (by kernel_rfl) (aux _ rfl)
def k45 (x0 : Family) (x1 : List UInt8) : Cl := (hres (C45 (findP x0 x1)), k1 (ok_impl_findPerson x0 x1))
def C43 (R : Int × Bool) : LV × List (Nat × BC) := (.tup [.int .i64 R.1, .bool R.2], [])
def readPar (x0 : Family) (x1 : List UInt8) : Int × Bool := bif (x1 == [45]) then ((-1), true) else ((findP x0 x1).1, (findP x0 x1).2)
def A43 (x0 : Family) (x1 : List UInt8) : Ann := r0 1 [1, 2, 4, 5] [2] (r0 1 [1, 2, 4, 5, 7] [2] (cn (x1 == [45]) (r0 1 [1, 2, 4, 5] [2] (rt [] (C43 ((-1), true)))) (.reg 1 [] [(2, k45 x0 x1)] [4, 5] [] [] [] [] [0] (rt [] (C43 ((findP x0 x1).1, (findP x0 x1).2))))))
theorem ok_impl_readParent (x0 : Family) (x1 : List UInt8) (hx : x0.people.length ≤ 1048576) : FnT Tryd.prog 43 [.agg (cFamily false x0), .str x1] (C43 (readPar x0 x1)) := by
  have aux : ∀ R, readPar x0 x1 = R → slim (C43 R) (A43 x0 x1) [] := by
    intro R hR
    refine rg trivial ?_
    refine rg trivial ?_
    revert hR; refine cd (fun hc1 hR => ?_) fun hc1 hR => ?_
    ·
      refine rg trivial ?_
      exact congrArg C43 hR
    ·
      refine rg ⟨by trivial, trivial⟩ ?_
      exact congrArg C43 hR
  exact Fn.go 13 Tryd.func43 (by kernel_rfl) (by kernel_rfl) (by simp [C43, Frs, FrsL]) (A43 x0 x1) (by kernel_rfl) (aux _ rfl)
def k43 (x0 : Family) (x1 : List UInt8) : Cl := (hres (C43 (readPar x0 x1)), k1 (ok_impl_readParent x0 x1))
def C44 (R : Int) : LV × List (Nat × BC) := (.int .i64 R, [])
def readSex (x0 : List UInt8) : Int := bif (x0 == [109, 97, 110]) then 1 else (bif (x0 == [119, 111, 109, 97, 110]) then 2 else 0)
def A44 (x0 : List UInt8) : Ann := r0 1 [0, 2] [] (r0 1 [2, 3] [] (r0 1 [2, 3, 4] [] (cn (x0 == [109, 97, 110]) (r0 1 [2] [] (rt [] (C44 1))) (r0 1 [2, 6] [] (cn (x0 == [119, 111, 109, 97, 110]) (r0 1 [2] [] (rt [] (C44 2))) (r0 1 [2] [] (rt [] (C44 0))))))))
theorem ok_impl_readSex (x0 : List UInt8) : FnT Tryd.prog 44 [.str x0] (C44 (readSex x0)) := by
  have aux : ∀ R, readSex x0 = R → slim (C44 R) (A44 x0) [] := by
    intro R hR
    refine rg trivial ?_
    refine rg trivial ?_
    refine rg trivial ?_
    revert hR; refine cd (fun hc1 hR => ?_) fun hc1 hR => ?_
    ·
      refine rg trivial ?_
      exact congrArg C44 hR
    ·
      refine rg trivial ?_
      revert hR; refine cd (fun hc2 hR => ?_) fun hc2 hR => ?_
      ·
        refine rg trivial ?_
        exact congrArg C44 hR
      ·
        refine rg trivial ?_
        exact congrArg C44 hR
  exact Fn.go 8 Tryd.func44 (by kernel_rfl) (by kernel_rfl) (by simp [C44, Frs, FrsL]) (A44 x0) (by kernel_rfl) (aux _ rfl)
def k44 (x0 : List UInt8) : Cl := (hres (C44 (readSex x0)), k0 (ok_impl_readSex x0))
end Go.Proofs.YtkkijpibajigfabDoor
