import Derived.Test.YtmefknjcgdbceaaDoorProg
import Derived.Test.YtmefknjcgdbceaaDoorLiteS
import Derived.KernelRfl
set_option maxHeartbeats 4000000
set_option linter.unusedSimpArgs false
set_option linter.unusedVariables false
namespace Go.Proofs.YtmefknjcgdbceaaDoor
open Go Go.Lite Go.Proofs
structure Custom where
  prefer : Int
  youngest : Bool
  represent : Bool
  deriving Inhabited
def cCustom (fr : Bool) (x : Custom) : List LV := cInt .i64 x.prefer ++ cBool x.youngest ++ cBool x.represent

def C13 (R : Bool) : LV × List (Nat × BC) := (.bool R, [])
def l1In (x0 : Int) (x1 : Int) (x2 : Int) : Bool := (decide (x1 ≤ x0)) && (decide (x0 ≤ x2))
def A13 (x0 : Int) (x1 : Int) (x2 : Int) : Ann := .reg 2 [] [] [6] [] [decide (x1 ≤ x0)] [] [] [1, 1, 1] (rt [] (C13 ((decide (x1 ≤ x0)) && (decide (x0 ≤ x2)))))
theorem ok_spec_l1In (x0 : Int) (x1 : Int) (x2 : Int) : FnT Tryd.prog 13 [.int .i64 x0, .int .i64 x1, .int .i64 x2] (C13 (l1In x0 x1 x2)) := by
  have aux : ∀ R, l1In x0 x1 x2 = R → slim (C13 R) (A13 x0 x1 x2) [] := by
    intro R hR
    refine rg trivial ?_
    exact congrArg C13 hR
  exact Fn.go 15 Tryd.func13 (by kernel_rfl) (by kernel_rfl) (by simp [C13, Frs, FrsL]) (A13 x0 x1 x2) (by kernel_rfl) (aux _ rfl)
def k13 (x0 : Int) (x1 : Int) (x2 : Int) : Cl := (hres (C13 (l1In x0 x1 x2)), k0 (ok_spec_l1In x0 x1 x2))
def C11 (R : Bool) : LV × List (Nat × BC) := (.bool R, [])
def specIsCustom (x0 : Custom) : Bool := l1In x0.prefer 0 4
def A11 (x0 : Custom) : Ann := .reg 2 [] [(1002, k13 x0.prefer 0 4)] [2] [] [] [] [] [0] (rt [] (C11 (l1In x0.prefer 0 4)))
theorem ok_spec_IsCustom (x0 : Custom) : FnT Tryd.prog 11 [.agg (cCustom false x0)] (C11 (specIsCustom x0)) := by
  have aux : ∀ R, specIsCustom x0 = R → slim (C11 R) (A11 x0) [] := by
    intro R hR
    refine rg ⟨trivial, trivial⟩ ?_
    exact congrArg C11 hR
  exact Fn.go 6 Tryd.func11 (by kernel_rfl) (by kernel_rfl) (by simp [C11, Frs, FrsL]) (A11 x0) (by kernel_rfl) (aux _ rfl)
def k11 (x0 : Custom) : Cl := (hres (C11 (specIsCustom x0)), k0 (ok_spec_IsCustom x0))
def C12 (R : Bool) : LV × List (Nat × BC) := (.bool R, [])
def implIsCustom (x0 : Custom) : Bool := (decide (0 ≤ x0.prefer)) && (decide (x0.prefer ≤ 4))
def A12 (x0 : Custom) : Ann := .reg 2 [] [] [2] [] [decide (0 ≤ x0.prefer)] [] [] [1, 1, 1] (rt [] (C12 ((decide (0 ≤ x0.prefer)) && (decide (x0.prefer ≤ 4)))))
theorem ok_impl_IsCustom (x0 : Custom) : FnT Tryd.prog 12 [.agg (cCustom false x0)] (C12 (implIsCustom x0)) := by
  have aux : ∀ R, implIsCustom x0 = R → slim (C12 R) (A12 x0) [] := by
    intro R hR
    refine rg trivial ?_
    exact congrArg C12 hR
  exact Fn.go 11 Tryd.func12 (by kernel_rfl) (by kernel_rfl) (by simp [C12, Frs, FrsL]) (A12 x0) (by kernel_rfl) (aux _ rfl)
def k12 (x0 : Custom) : Cl := (hres (C12 (implIsCustom x0)), k0 (ok_impl_IsCustom x0))
def C6 (R : Custom) : LV × List (Nat × BC) := (.agg [.int .i64 R.prefer, .bool R.youngest, .bool R.represent], [])
def laws_toCustom_m (x0 : Custom) : Custom := x0
def A6 (x0 : Custom) : Ann := r0 6 [2] [2] (rt [] (C6 x0))
theorem ok_laws_toCustom (x0 : Custom) : FnT Tryd.prog 6 [.agg (cCustom false x0)] (C6 x0) := by
  have aux : ∀ R, laws_toCustom_m x0 = R → slim (C6 R) (A6 x0) [] := by
    intro R hR
    refine rg trivial ?_
    exact congrArg C6 hR
  exact Fn.go 14 Tryd.func6 (by kernel_rfl) (by kernel_rfl) (by simp [C6, Frs, FrsL]) (A6 x0) (by kernel_rfl) (aux _ rfl)
def k6 (x0 : Custom) : Cl := (hres (C6 x0), k0 (ok_laws_toCustom x0))
theorem gWords_len (k : Nat) : (gWords.getD k []).length ≤ 10 := by
  match k with
  | 0 | 1 | 2 | 3 | 4 => decide
  | _ + 5 => exact Nat.zero_le _

def C7 (R : (List UInt8)) : LV × List (Nat × BC) := (.str R, [])
def implFormat (x0 : Custom) : (List UInt8) := bif (!(implIsCustom x0)) then ([] : List UInt8) else (jn (fun K1 => bif x0.youngest then (K1 ((gWords.getD x0.prefer.toNat []) ++ [32, 121, 111, 117, 110, 103, 101, 115, 116])) else (K1 (gWords.getD x0.prefer.toNat []))) (fun (j1 : (List UInt8)) => bif x0.represent then (j1 ++ [32, 114, 101, 112, 114, 101, 115, 101, 110, 116]) else j1))
def D7j1 (x0 : Custom) (j1 : (List UInt8)) : Dl := ⟨[(3, .str j1)], []⟩
def A7j1 (x0 : Custom) (j1 : (List UInt8)) : Ann := r0 1 [2, 3, 16] [] (cn x0.represent (r1 1 [2, 3] [] [pf (((j1.length + [32, 114, 101, 112, 114, 101, 115, 101, 110, 116].length : Nat) : Int) ≤ 9223372036854775807)] [0] (r0 1 [2] [] (rt [] (C7 (j1 ++ [32, 114, 101, 112, 114, 101, 115, 101, 110, 116]))))) (r0 1 [2] [] (rt [] (C7 j1))))
def A7 (x0 : Custom) : Ann := r0 1 [1, 2] [1] (.reg 1 [] [(1, k12 x0)] [1, 2, 6] [1] [] [] [] [0] (cn (!(implIsCustom x0)) (r0 1 [1, 2] [1] (rt [] (C7 ([] : List UInt8)))) (r1 1 [1, 2, 3] [1] [pf (0 ≤ (x0.prefer : Int) ∧ (x0.prefer : Int) < ((5 : Nat) : Int))] [0] (.join 0 (List UInt8) (D7j1 x0) [1, 2, 3] [1] (r0 1 [1, 2, 3, 12] [1] (cn x0.youngest (r1 1 [1, 2, 3] [1] [pf ((((gWords.getD x0.prefer.toNat []).length + [32, 121, 111, 117, 110, 103, 101, 115, 116].length : Nat) : Int) ≤ 9223372036854775807)] [0] (.next 0 [] (D7j1 x0 ((gWords.getD x0.prefer.toNat []) ++ [32, 121, 111, 117, 110, 103, 101, 115, 116])))) (.next 0 [] (D7j1 x0 (gWords.getD x0.prefer.toNat []))))) (A7j1 x0)))))
theorem ok_impl_FormatCustom (x0 : Custom) : FnT Tryd.prog 7 [.agg (cCustom false x0)] (C7 (implFormat x0)) := by
  have aux : ∀ R, implFormat x0 = R → slim (C7 R) (A7 x0) [] := by
    intro R hR
    refine rg trivial ?_
    refine rg ⟨trivial, trivial⟩ ?_
    revert hR; refine cd (fun hc1 hR => ?_) fun hc1 hR => ?_
    ·
      refine rg trivial ?_
      exact congrArg C7 hR
    ·
      refine rg ⟨by first | exact True.intro | with_reducible assumption | (intros; omega) | (have h9 := gWords_len x0.prefer.toNat; (try simp only [List.length_append, List.length_cons, List.length_nil]); omega) | (simp only [List.length_append, List.length_cons, List.length_nil]; omega) | (simp only [implIsCustom, Bool.not_eq_false', Bool.and_eq_true, decide_eq_true_eq] at hc1; omega) | ( intros; simp only [inR]; omega) | ((try clear hR); intros; (try simp only [decide_eq_true_eq, decide_eq_false_iff_not, Bool.or_eq_true, Bool.and_eq_true, or_f_iff, not_f_iff, not_t_iff, Bool.not_eq_true', inR] at *); (repeat' apply And.intro) <;> (first | (intros; omega) | (have h9 := gWords_len x0.prefer.toNat; (try simp only [List.length_append, List.length_cons, List.length_nil]); omega) | (simp only [List.length_append, List.length_cons, List.length_nil]; omega) | (simp only [implIsCustom, Bool.not_eq_false', Bool.and_eq_true, decide_eq_true_eq] at hc1; omega))), trivial⟩ ?_
      revert hR; refine jN (fun v => v.length ≤ 30) (fun F101 hR hJ101 => ?_) (fun j1 hR hJ1 => ?_)
      ·
        refine rg trivial ?_
        revert hR; refine cd (fun hc2 hR => ?_) fun hc2 hR => ?_
        ·
          refine rg ⟨by first | exact True.intro | with_reducible assumption | (intros; omega) | (have h9 := gWords_len x0.prefer.toNat; (try simp only [List.length_append, List.length_cons, List.length_nil]); omega) | (simp only [List.length_append, List.length_cons, List.length_nil]; omega) | (simp only [implIsCustom, Bool.not_eq_false', Bool.and_eq_true, decide_eq_true_eq] at hc1; omega) | ( intros; simp only [inR]; omega) | ((try clear hR hJ101); intros; (try simp only [decide_eq_true_eq, decide_eq_false_iff_not, Bool.or_eq_true, Bool.and_eq_true, or_f_iff, not_f_iff, not_t_iff, Bool.not_eq_true', inR] at *); (repeat' apply And.intro) <;> (first | (intros; omega) | (have h9 := gWords_len x0.prefer.toNat; (try simp only [List.length_append, List.length_cons, List.length_nil]); omega) | (simp only [List.length_append, List.length_cons, List.length_nil]; omega) | (simp only [implIsCustom, Bool.not_eq_false', Bool.and_eq_true, decide_eq_true_eq] at hc1; omega))), trivial⟩ ?_
          exact hJ101 ((gWords.getD x0.prefer.toNat []) ++ [32, 121, 111, 117, 110, 103, 101, 115, 116]) hR (by first | exact True.intro | with_reducible assumption | (intros; omega) | (have h9 := gWords_len x0.prefer.toNat; (try simp only [List.length_append, List.length_cons, List.length_nil]); omega) | (simp only [List.length_append, List.length_cons, List.length_nil]; omega) | (simp only [implIsCustom, Bool.not_eq_false', Bool.and_eq_true, decide_eq_true_eq] at hc1; omega) | ( intros; simp only [inR]; omega) | ((try clear hR hJ101); intros; (try simp only [decide_eq_true_eq, decide_eq_false_iff_not, Bool.or_eq_true, Bool.and_eq_true, or_f_iff, not_f_iff, not_t_iff, Bool.not_eq_true', inR] at *); (repeat' apply And.intro) <;> (first | (intros; omega) | (have h9 := gWords_len x0.prefer.toNat; (try simp only [List.length_append, List.length_cons, List.length_nil]); omega) | (simp only [List.length_append, List.length_cons, List.length_nil]; omega) | (simp only [implIsCustom, Bool.not_eq_false', Bool.and_eq_true, decide_eq_true_eq] at hc1; omega))))
        ·
          exact hJ101 (gWords.getD x0.prefer.toNat []) hR (by first | exact True.intro | with_reducible assumption | (intros; omega) | (have h9 := gWords_len x0.prefer.toNat; (try simp only [List.length_append, List.length_cons, List.length_nil]); omega) | (simp only [List.length_append, List.length_cons, List.length_nil]; omega) | (simp only [implIsCustom, Bool.not_eq_false', Bool.and_eq_true, decide_eq_true_eq] at hc1; omega) | ( intros; simp only [inR]; omega) | ((try clear hR hJ101); intros; (try simp only [decide_eq_true_eq, decide_eq_false_iff_not, Bool.or_eq_true, Bool.and_eq_true, or_f_iff, not_f_iff, not_t_iff, Bool.not_eq_true', inR] at *); (repeat' apply And.intro) <;> (first | (intros; omega) | (have h9 := gWords_len x0.prefer.toNat; (try simp only [List.length_append, List.length_cons, List.length_nil]); omega) | (simp only [List.length_append, List.length_cons, List.length_nil]; omega) | (simp only [implIsCustom, Bool.not_eq_false', Bool.and_eq_true, decide_eq_true_eq] at hc1; omega))))
      ·
        refine rg trivial ?_
        revert hR; refine cd (fun hc3 hR => ?_) fun hc3 hR => ?_
        ·
          refine rg ⟨by first | exact True.intro | with_reducible assumption | (intros; omega) | (have h9 := gWords_len x0.prefer.toNat; (try simp only [List.length_append, List.length_cons, List.length_nil]); omega) | (simp only [List.length_append, List.length_cons, List.length_nil]; omega) | (simp only [implIsCustom, Bool.not_eq_false', Bool.and_eq_true, decide_eq_true_eq] at hc1; omega) | ( intros; simp only [inR]; omega) | ((try clear hR); intros; (try simp only [decide_eq_true_eq, decide_eq_false_iff_not, Bool.or_eq_true, Bool.and_eq_true, or_f_iff, not_f_iff, not_t_iff, Bool.not_eq_true', inR] at *); (repeat' apply And.intro) <;> (first | (intros; omega) | (have h9 := gWords_len x0.prefer.toNat; (try simp only [List.length_append, List.length_cons, List.length_nil]); omega) | (simp only [List.length_append, List.length_cons, List.length_nil]; omega) | (simp only [implIsCustom, Bool.not_eq_false', Bool.and_eq_true, decide_eq_true_eq] at hc1; omega))), trivial⟩ ?_
          refine rg trivial ?_
          exact congrArg C7 hR
        ·
          refine rg trivial ?_
          exact congrArg C7 hR
  exact Fn.go 20 Tryd.func7 (by kernel_rfl) (by kernel_rfl) (by simp [C7, Frs, FrsL]) (A7 x0) (by kernel_rfl) (aux _ rfl)
def k7 (x0 : Custom) : Cl := (hres (C7 (implFormat x0)), k0 (ok_impl_FormatCustom x0))
theorem words_len (k : Nat) : (([[97, 110, 121], [109, 101, 110], [119, 111, 109, 101, 110], [111, 110, 108, 121, 32, 109, 101, 110], [111, 110, 108, 121, 32, 119, 111, 109, 101, 110]] : List (List UInt8)).getD k default).length ≤ 10 := gWords_len k
def C5 (R : (List UInt8)) : LV × List (Nat × BC) := (.str R, [])
def specFormat (x0 : Custom) : (List UInt8) := bif (!(specIsCustom x0)) then ([] : List UInt8) else (jn (fun K1 => bif x0.youngest then (K1 ((([[97, 110, 121], [109, 101, 110], [119, 111, 109, 101, 110], [111, 110, 108, 121, 32, 109, 101, 110], [111, 110, 108, 121, 32, 119, 111, 109, 101, 110]] : List (List UInt8)).getD x0.prefer.toNat default) ++ [32, 121, 111, 117, 110, 103, 101, 115, 116])) else (K1 (([[97, 110, 121], [109, 101, 110], [119, 111, 109, 101, 110], [111, 110, 108, 121, 32, 109, 101, 110], [111, 110, 108, 121, 32, 119, 111, 109, 101, 110]] : List (List UInt8)).getD x0.prefer.toNat default))) (fun (j1 : (List UInt8)) => bif x0.represent then (j1 ++ [32, 114, 101, 112, 114, 101, 115, 101, 110, 116]) else j1))
def D5j1 (x0 : Custom) (j1 : (List UInt8)) : Dl := ⟨[(3, .str j1)], []⟩
def A5j1 (x0 : Custom) (j1 : (List UInt8)) : Ann := r0 1 [2, 3, 17] [] (cn x0.represent (r1 1 [2, 3] [] [pf (((j1.length + [32, 114, 101, 112, 114, 101, 115, 101, 110, 116].length : Nat) : Int) ≤ 9223372036854775807)] [0] (r0 1 [2] [] (rt [] (C5 (j1 ++ [32, 114, 101, 112, 114, 101, 115, 101, 110, 116]))))) (r0 1 [2] [] (rt [] (C5 j1))))
def A5 (x0 : Custom) : Ann := r0 1 [1, 2] [1] (.reg 1 [] [(1, k11 x0)] [1, 2, 6] [1] [] [] [] [0] (cn (!(specIsCustom x0)) (r0 1 [1, 2] [1] (rt [] (C5 ([] : List UInt8)))) (.reg 1 [] [(0, bsC 7 (cStr) (([[97, 110, 121], [109, 101, 110], [119, 111, 109, 101, 110], [111, 110, 108, 121, 32, 109, 101, 110], [111, 110, 108, 121, 32, 119, 111, 109, 101, 110]] : List (List UInt8)) : List (List UInt8)))] [1, 2, 3] [1] [] [pf (0 ≤ (x0.prefer : Int) ∧ (x0.prefer : Int) < ((5 : Nat) : Int))] [] [4, 0] (.join 0 (List UInt8) (D5j1 x0) [1, 2, 3] [1] (r0 1 [1, 2, 3, 13] [1] (cn x0.youngest (r1 1 [1, 2, 3] [1] [pf ((((([[97, 110, 121], [109, 101, 110], [119, 111, 109, 101, 110], [111, 110, 108, 121, 32, 109, 101, 110], [111, 110, 108, 121, 32, 119, 111, 109, 101, 110]] : List (List UInt8)).getD x0.prefer.toNat default).length + [32, 121, 111, 117, 110, 103, 101, 115, 116].length : Nat) : Int) ≤ 9223372036854775807)] [0] (.next 0 [] (D5j1 x0 ((([[97, 110, 121], [109, 101, 110], [119, 111, 109, 101, 110], [111, 110, 108, 121, 32, 109, 101, 110], [111, 110, 108, 121, 32, 119, 111, 109, 101, 110]] : List (List UInt8)).getD x0.prefer.toNat default) ++ [32, 121, 111, 117, 110, 103, 101, 115, 116])))) (.next 0 [] (D5j1 x0 (([[97, 110, 121], [109, 101, 110], [119, 111, 109, 101, 110], [111, 110, 108, 121, 32, 109, 101, 110], [111, 110, 108, 121, 32, 119, 111, 109, 101, 110]] : List (List UInt8)).getD x0.prefer.toNat default))))) (A5j1 x0)))))
theorem ok_spec_FormatCustom (x0 : Custom) : FnT Tryd.prog 5 [.agg (cCustom false x0)] (C5 (specFormat x0)) := by
  have aux : ∀ R, specFormat x0 = R → slim (C5 R) (A5 x0) [] := by
    intro R hR
    refine rg trivial ?_
    refine rg ⟨trivial, trivial⟩ ?_
    revert hR; refine cd (fun hc1 hR => ?_) fun hc1 hR => ?_
    ·
      refine rg trivial ?_
      exact congrArg C5 hR
    ·
      refine rg ⟨by first | exact True.intro | with_reducible assumption | (intros; omega) | (have h9 := words_len x0.prefer.toNat; (try simp only [List.length_append, List.length_cons, List.length_nil]); omega) | (simp only [List.length_append, List.length_cons, List.length_nil]; omega) | (simp only [specIsCustom, l1In, Bool.not_eq_false', Bool.and_eq_true, decide_eq_true_eq] at hc1; omega) | ( intros; simp only [inR]; omega) | ((try clear hR); intros; (try simp only [decide_eq_true_eq, decide_eq_false_iff_not, Bool.or_eq_true, Bool.and_eq_true, or_f_iff, not_f_iff, not_t_iff, Bool.not_eq_true', inR] at *); (repeat' apply And.intro) <;> (first | (intros; omega) | (have h9 := words_len x0.prefer.toNat; (try simp only [List.length_append, List.length_cons, List.length_nil]); omega) | (simp only [List.length_append, List.length_cons, List.length_nil]; omega) | (simp only [specIsCustom, l1In, Bool.not_eq_false', Bool.and_eq_true, decide_eq_true_eq] at hc1; omega))), trivial, trivial⟩ ?_
      revert hR; refine jN (fun v => v.length ≤ 30) (fun F101 hR hJ101 => ?_) (fun j1 hR hJ1 => ?_)
      ·
        refine rg trivial ?_
        revert hR; refine cd (fun hc2 hR => ?_) fun hc2 hR => ?_
        ·
          refine rg ⟨by first | exact True.intro | with_reducible assumption | (intros; omega) | (have h9 := words_len x0.prefer.toNat; (try simp only [List.length_append, List.length_cons, List.length_nil]); omega) | (simp only [List.length_append, List.length_cons, List.length_nil]; omega) | (simp only [specIsCustom, l1In, Bool.not_eq_false', Bool.and_eq_true, decide_eq_true_eq] at hc1; omega) | ( intros; simp only [inR]; omega) | ((try clear hR hJ101); intros; (try simp only [decide_eq_true_eq, decide_eq_false_iff_not, Bool.or_eq_true, Bool.and_eq_true, or_f_iff, not_f_iff, not_t_iff, Bool.not_eq_true', inR] at *); (repeat' apply And.intro) <;> (first | (intros; omega) | (have h9 := words_len x0.prefer.toNat; (try simp only [List.length_append, List.length_cons, List.length_nil]); omega) | (simp only [List.length_append, List.length_cons, List.length_nil]; omega) | (simp only [specIsCustom, l1In, Bool.not_eq_false', Bool.and_eq_true, decide_eq_true_eq] at hc1; omega))), trivial⟩ ?_
          exact hJ101 ((([[97, 110, 121], [109, 101, 110], [119, 111, 109, 101, 110], [111, 110, 108, 121, 32, 109, 101, 110], [111, 110, 108, 121, 32, 119, 111, 109, 101, 110]] : List (List UInt8)).getD x0.prefer.toNat default) ++ [32, 121, 111, 117, 110, 103, 101, 115, 116]) hR (by first | exact True.intro | with_reducible assumption | (intros; omega) | (have h9 := words_len x0.prefer.toNat; (try simp only [List.length_append, List.length_cons, List.length_nil]); omega) | (simp only [List.length_append, List.length_cons, List.length_nil]; omega) | (simp only [specIsCustom, l1In, Bool.not_eq_false', Bool.and_eq_true, decide_eq_true_eq] at hc1; omega) | ( intros; simp only [inR]; omega) | ((try clear hR hJ101); intros; (try simp only [decide_eq_true_eq, decide_eq_false_iff_not, Bool.or_eq_true, Bool.and_eq_true, or_f_iff, not_f_iff, not_t_iff, Bool.not_eq_true', inR] at *); (repeat' apply And.intro) <;> (first | (intros; omega) | (have h9 := words_len x0.prefer.toNat; (try simp only [List.length_append, List.length_cons, List.length_nil]); omega) | (simp only [List.length_append, List.length_cons, List.length_nil]; omega) | (simp only [specIsCustom, l1In, Bool.not_eq_false', Bool.and_eq_true, decide_eq_true_eq] at hc1; omega))))
        ·
          exact hJ101 (([[97, 110, 121], [109, 101, 110], [119, 111, 109, 101, 110], [111, 110, 108, 121, 32, 109, 101, 110], [111, 110, 108, 121, 32, 119, 111, 109, 101, 110]] : List (List UInt8)).getD x0.prefer.toNat default) hR (by first | exact True.intro | with_reducible assumption | (intros; omega) | (have h9 := words_len x0.prefer.toNat; (try simp only [List.length_append, List.length_cons, List.length_nil]); omega) | (simp only [List.length_append, List.length_cons, List.length_nil]; omega) | (simp only [specIsCustom, l1In, Bool.not_eq_false', Bool.and_eq_true, decide_eq_true_eq] at hc1; omega) | ( intros; simp only [inR]; omega) | ((try clear hR hJ101); intros; (try simp only [decide_eq_true_eq, decide_eq_false_iff_not, Bool.or_eq_true, Bool.and_eq_true, or_f_iff, not_f_iff, not_t_iff, Bool.not_eq_true', inR] at *); (repeat' apply And.intro) <;> (first | (intros; omega) | (have h9 := words_len x0.prefer.toNat; (try simp only [List.length_append, List.length_cons, List.length_nil]); omega) | (simp only [List.length_append, List.length_cons, List.length_nil]; omega) | (simp only [specIsCustom, l1In, Bool.not_eq_false', Bool.and_eq_true, decide_eq_true_eq] at hc1; omega))))
      ·
        refine rg trivial ?_
        revert hR; refine cd (fun hc3 hR => ?_) fun hc3 hR => ?_
        ·
          refine rg ⟨by first | exact True.intro | with_reducible assumption | (intros; omega) | (have h9 := words_len x0.prefer.toNat; (try simp only [List.length_append, List.length_cons, List.length_nil]); omega) | (simp only [List.length_append, List.length_cons, List.length_nil]; omega) | (simp only [specIsCustom, l1In, Bool.not_eq_false', Bool.and_eq_true, decide_eq_true_eq] at hc1; omega) | ( intros; simp only [inR]; omega) | ((try clear hR); intros; (try simp only [decide_eq_true_eq, decide_eq_false_iff_not, Bool.or_eq_true, Bool.and_eq_true, or_f_iff, not_f_iff, not_t_iff, Bool.not_eq_true', inR] at *); (repeat' apply And.intro) <;> (first | (intros; omega) | (have h9 := words_len x0.prefer.toNat; (try simp only [List.length_append, List.length_cons, List.length_nil]); omega) | (simp only [List.length_append, List.length_cons, List.length_nil]; omega) | (simp only [specIsCustom, l1In, Bool.not_eq_false', Bool.and_eq_true, decide_eq_true_eq] at hc1; omega))), trivial⟩ ?_
          refine rg trivial ?_
          exact congrArg C5 hR
        ·
          refine rg trivial ?_
          exact congrArg C5 hR
  exact Fn.go 21 Tryd.func5 (by kernel_rfl) (by kernel_rfl) (by simp [C5, Frs, FrsL]) (A5 x0) (by kernel_rfl) (aux _ rfl)
def k5 (x0 : Custom) : Cl := (hres (C5 (specFormat x0)), k0 (ok_spec_FormatCustom x0))
end Go.Proofs.YtmefknjcgdbceaaDoor
