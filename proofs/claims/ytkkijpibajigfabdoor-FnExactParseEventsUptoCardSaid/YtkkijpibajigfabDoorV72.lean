import Derived.Test.YtkkijpibajigfabDoorM60
set_option maxHeartbeats 4000000
set_option linter.unusedSimpArgs false
set_option linter.unusedVariables false
namespace Go.Proofs.YtkkijpibajigfabDoor
open Go Go.Lite Go.Proofs
theorem snoc_lt' {α : Type} {l : List α} {z d : α} {k : Nat} (h : k < l.length) : (l ++ [z]).getD k d = l.getD k d := by
  rw [getD_snoc, if_pos h]
theorem snoc_last {α : Type} {l : List α} {z d : α} {k : Nat} (h : k = l.length) : (l ++ [z]).getD k d = z := by
  rw [getD_snoc, if_neg (by omega), if_pos h]
def C30 (R : (List UInt8)) : LV × List (Nat × BC) := (.str R, [])
def markText (x0 : Int) : (List UInt8) := bif (decide (x0 ≤ 0)) then [109, 48] else (loopW (fun (v1 : Int × (List UInt8)) next => bif (decide (0 < v1.1)) then (next (v1.1.tdiv 10, (List.map Lite.byteOf ([IntKind.wrap .u8 (48 + (v1.1.tmod 10))] : List Int)) ++ v1.2)) else ([109] ++ v1.2)) (x0.toNat + 1) (x0, ([] : List UInt8)))
def D30b1 (x0 : Int) (v1 : Int × (List UInt8)) : Dl := ⟨[(0, .int .i64 v1.1), (3, .str v1.2)], []⟩
def A30b1 (x0 : Int) (v1 : Int × (List UInt8)) : Ann := r0 1 [0, 2, 3, 7] [] (cn (decide (0 < v1.1)) (.reg 1 [(3, .wrap), (5, .ints ([IntKind.wrap .u8 (48 + (v1.1.tmod 10))] : List Int))] [(4, bsC 12 (cInt .u8) ([IntKind.wrap .u8 (48 + (v1.1.tmod 10))] : List Int))] [0, 2, 3] [] [] [pf ((10 : Int) ≠ 0), pf (inR .i64 (48 + (v1.1.tmod 10))), pf ((((List.map Lite.byteOf ([IntKind.wrap .u8 (48 + (v1.1.tmod 10))] : List Int)).length + v1.2.length : Nat) : Int) ≤ 9223372036854775807)] [zf (P := 1 = ([IntKind.wrap .u8 (48 + (v1.1.tmod 10))] : List Int).length ∧ ∀ k, k < 1 → (rowOf (cInt .u8) [IntKind.wrap .u8 (48 + (v1.1.tmod 10))]) k = [.int .u8 (([IntKind.wrap .u8 (48 + (v1.1.tmod 10))] : List Int).getD k default)]) (⟨by first | rfl | simp, fun _ _ => rfl⟩)] [0, 4, 12, 3, 8] (r1 1 [0, 2, 3] [] [pf ((10 : Int) ≠ 0), pf (inR .i64 (v1.1.tdiv 10))] [0, 4] (.next 0 [] (D30b1 x0 (v1.1.tdiv 10, (List.map Lite.byteOf ([IntKind.wrap .u8 (48 + (v1.1.tmod 10))] : List Int)) ++ v1.2))))) (r1 1 [2] [] [pf ((([109].length + v1.2.length : Nat) : Int) ≤ 9223372036854775807)] [0] (rt [] (C30 ([109] ++ v1.2)))))
def A30 (x0 : Int) : Ann := r0 1 [0, 2] [] (r0 1 [0, 2, 5] [] (cn (decide (x0 ≤ 0)) (r0 1 [0, 2] [] (rt [] (C30 [109, 48]))) (r0 1 [0, 2, 3] [] (.loop (Int × (List UInt8)) (D30b1 x0) [] [] [] (D30b1 x0 (x0, ([] : List UInt8))) (A30b1 x0)))))
theorem ok_laws_markText (x0 : Int) (hk : x0 ≤ 60000000) : FnT Tryd.prog 30 [.int .i64 x0] (C30 (markText x0)) := by
  have aux : ∀ R, markText x0 = R → slim (C30 R) (A30 x0) [] := by
    intro R hR
    refine rg trivial ?_
    refine rg trivial ?_
    revert hR; refine cd (fun hc1 hR => ?_) fun hc1 hR => ?_
    ·
      refine rg trivial ?_
      exact congrArg C30 hR
    ·
      refine rg trivial ?_
      revert hR; refine lW (fun v => (0 ≤ v.1 ∧ v.1 ≤ 60000000) ∧ v.2.length + v.1.toNat ≤ 60000000) (fun v => v.1.toNat) (by ((try clear hR); intros; (try simp only [decide_eq_true_eq, decide_eq_false_iff_not, Bool.or_eq_true, Bool.and_eq_true, or_f_iff, not_f_iff, not_t_iff, Bool.not_eq_true', inR] at *); (repeat' apply And.intro) <;> (first | (intros; omega) | (simp only [List.length_append, List.length_map, List.length_cons, List.length_nil]; omega)))) (Nat.lt_succ_self _) rfl fun m1 v1 F1 hI1 hM1 hR hK1 => ?_
      refine rg trivial ?_
      revert hR; refine cd (fun hc2 hR => ?_) fun hc2 hR => ?_
      ·
        refine rg ⟨by trivial, by ((try clear hR hK1); intros; (try simp only [decide_eq_true_eq, decide_eq_false_iff_not, Bool.or_eq_true, Bool.and_eq_true, or_f_iff, not_f_iff, not_t_iff, Bool.not_eq_true', inR] at *); (repeat' apply And.intro) <;> (have e := Int.tmod_eq_emod_of_nonneg (a := v1.1) (b := 10) (by omega); omega)), by (have e := Int.tdiv_eq_ediv_of_nonneg (a := v1.1) (b := 10) (by omega); simp only [List.length_append, List.length_map, List.length_cons, List.length_nil]; omega), trivial, trivial⟩ ?_
        refine rg ⟨by trivial, by ((try clear hR hK1); intros; (try simp only [decide_eq_true_eq, decide_eq_false_iff_not, Bool.or_eq_true, Bool.and_eq_true, or_f_iff, not_f_iff, not_t_iff, Bool.not_eq_true', inR] at *); (repeat' apply And.intro) <;> (have e := Int.tdiv_eq_ediv_of_nonneg (a := v1.1) (b := 10) (by omega); omega)), trivial⟩ ?_
        exact hK1 (v1.1.tdiv 10, (List.map Lite.byteOf ([IntKind.wrap .u8 (48 + (v1.1.tmod 10))] : List Int)) ++ v1.2) (by ((try clear hR hK1); intros; (try simp only [decide_eq_true_eq, decide_eq_false_iff_not, Bool.or_eq_true, Bool.and_eq_true, or_f_iff, not_f_iff, not_t_iff, Bool.not_eq_true', inR] at *); (repeat' apply And.intro) <;> (first | (have e := Int.tdiv_eq_ediv_of_nonneg (a := v1.1) (b := 10) (by omega); omega) | (have e := Int.tdiv_eq_ediv_of_nonneg (a := v1.1) (b := 10) (by omega); simp only [List.length_append, List.length_map, List.length_cons, List.length_nil]; omega)))) (by ((try clear hR hK1); intros; (try simp only [decide_eq_true_eq, decide_eq_false_iff_not, Bool.or_eq_true, Bool.and_eq_true, or_f_iff, not_f_iff, not_t_iff, Bool.not_eq_true', inR] at *); (repeat' apply And.intro) <;> (have e := Int.tdiv_eq_ediv_of_nonneg (a := v1.1) (b := 10) (by omega); omega))) hR
      ·
        refine rg ⟨by (have e := Int.tdiv_eq_ediv_of_nonneg (a := v1.1) (b := 10) (by omega); simp only [List.length_append, List.length_map, List.length_cons, List.length_nil]; omega), trivial⟩ ?_
        exact congrArg C30 hR
  exact Fn.go 20 Tryd.func30 (by kernel_rfl) (by kernel_rfl) (by simp [C30, Frs, FrsL]) (A30 x0) (by kernel_rfl) (aux _ rfl)
def k30 (x0 : Int) : Cl := (hres (C30 (markText x0)), k1 (ok_laws_markText x0))





end Go.Proofs.YtkkijpibajigfabDoor
