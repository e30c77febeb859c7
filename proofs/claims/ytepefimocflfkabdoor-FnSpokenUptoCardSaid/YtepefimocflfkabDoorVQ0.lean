import Derived.Test.YtepefimocflfkabDoorM212
set_option maxHeartbeats 4000000
set_option linter.unusedSimpArgs false
set_option linter.unusedVariables false
namespace Go.Proofs.YtepefimocflfkabDoor
open Go Go.Lite Go.Proofs
structure Custom where
  prefer : Int
  youngest : Bool
  represent : Bool
  deriving Inhabited
def cCustom (fr : Bool) (x : Custom) : List LV := cInt .i64 x.prefer ++ cBool x.youngest ++ cBool x.represent

def C28 (R : Bool) : LV × List (Nat × BC) := (.bool R, [])
def implIsCustom (x0 : Custom) : Bool := (decide (0 ≤ x0.prefer)) && (decide (x0.prefer ≤ 4))
def A28 (x0 : Custom) : Ann := .reg 2 [] [] [2] [] [decide (0 ≤ x0.prefer)] [] [] [1, 1, 1] (rt [] (C28 ((decide (0 ≤ x0.prefer)) && (decide (x0.prefer ≤ 4)))))
theorem ok_impl_IsCustom (x0 : Custom) : FnT Tryd.prog 28 [.agg (cCustom false x0)] (C28 (implIsCustom x0)) := by
  have aux : ∀ R, implIsCustom x0 = R → slim (C28 R) (A28 x0) [] := by
    intro R hR
    refine rg trivial ?_
    exact congrArg C28 hR
  exact Fn.go 11 Tryd.func28 (by kernel_rfl) (by kernel_rfl) (by simp [C28, Frs, FrsL]) (A28 x0) (by kernel_rfl) (aux _ rfl)
def k28 (x0 : Custom) : Cl := (hres (C28 (implIsCustom x0)), k0 (ok_impl_IsCustom x0))
theorem gWords_len (k : Nat) : (gWords.getD k []).length ≤ 10 := by
  match k with
  | 0 | 1 | 2 | 3 | 4 => decide
  | _ + 5 => exact Nat.zero_le _

def C15 (R : (List UInt8)) : LV × List (Nat × BC) := (.str R, [])
def implFormat (x0 : Custom) : (List UInt8) := bif (!(implIsCustom x0)) then ([] : List UInt8) else (jn (fun K1 => bif x0.youngest then (K1 ((gWords.getD x0.prefer.toNat []) ++ [32, 121, 111, 117, 110, 103, 101, 115, 116])) else (K1 (gWords.getD x0.prefer.toNat []))) (fun (j1 : (List UInt8)) => bif x0.represent then (j1 ++ [32, 114, 101, 112, 114, 101, 115, 101, 110, 116]) else j1))
def D15j1 (x0 : Custom) (j1 : (List UInt8)) : Dl := ⟨[(3, .str j1)], []⟩
def A15j1 (x0 : Custom) (j1 : (List UInt8)) : Ann := r0 1 [2, 3, 16] [] (cn x0.represent (r1 1 [2, 3] [] [pf (((j1.length + [32, 114, 101, 112, 114, 101, 115, 101, 110, 116].length : Nat) : Int) ≤ 9223372036854775807)] [0] (r0 1 [2] [] (rt [] (C15 (j1 ++ [32, 114, 101, 112, 114, 101, 115, 101, 110, 116]))))) (r0 1 [2] [] (rt [] (C15 j1))))
def A15 (x0 : Custom) : Ann := r0 1 [1, 2] [1] (.reg 1 [] [(1, k28 x0)] [1, 2, 6] [1] [] [] [] [0] (cn (!(implIsCustom x0)) (r0 1 [1, 2] [1] (rt [] (C15 ([] : List UInt8)))) (r1 1 [1, 2, 3] [1] [pf (0 ≤ (x0.prefer : Int) ∧ (x0.prefer : Int) < ((5 : Nat) : Int))] [0] (.join 0 (List UInt8) (D15j1 x0) [1, 2, 3] [1] (r0 1 [1, 2, 3, 12] [1] (cn x0.youngest (r1 1 [1, 2, 3] [1] [pf ((((gWords.getD x0.prefer.toNat []).length + [32, 121, 111, 117, 110, 103, 101, 115, 116].length : Nat) : Int) ≤ 9223372036854775807)] [0] (.next 0 [] (D15j1 x0 ((gWords.getD x0.prefer.toNat []) ++ [32, 121, 111, 117, 110, 103, 101, 115, 116])))) (.next 0 [] (D15j1 x0 (gWords.getD x0.prefer.toNat []))))) (A15j1 x0)))))
theorem ok_impl_FormatCustom (x0 : Custom) : FnT Tryd.prog 15 [.agg (cCustom false x0)] (C15 (implFormat x0)) := by
  have aux : ∀ R, implFormat x0 = R → slim (C15 R) (A15 x0) [] := by
    intro R hR
    refine rg trivial ?_
    refine rg ⟨trivial, trivial⟩ ?_
    revert hR; refine cd (fun hc1 hR => ?_) fun hc1 hR => ?_
    ·
      refine rg trivial ?_
      exact congrArg C15 hR
    ·
      refine rg ⟨by (simp only [implIsCustom, Bool.not_eq_false', Bool.and_eq_true, decide_eq_true_eq] at hc1; omega), trivial⟩ ?_
      revert hR; refine jN (fun v => v.length ≤ 30) (fun F101 hR hJ101 => ?_) (fun j1 hR hJ1 => ?_)
      ·
        refine rg trivial ?_
        revert hR; refine cd (fun hc2 hR => ?_) fun hc2 hR => ?_
        ·
          refine rg ⟨by (have h9 := gWords_len x0.prefer.toNat; (try simp only [List.length_append, List.length_cons, List.length_nil]); omega), trivial⟩ ?_
          exact hJ101 ((gWords.getD x0.prefer.toNat []) ++ [32, 121, 111, 117, 110, 103, 101, 115, 116]) hR (by (have h9 := gWords_len x0.prefer.toNat; (try simp only [List.length_append, List.length_cons, List.length_nil]); omega))
        ·
          exact hJ101 (gWords.getD x0.prefer.toNat []) hR (by (have h9 := gWords_len x0.prefer.toNat; (try simp only [List.length_append, List.length_cons, List.length_nil]); omega))
      ·
        refine rg trivial ?_
        revert hR; refine cd (fun hc3 hR => ?_) fun hc3 hR => ?_
        ·
          refine rg ⟨by (have h9 := gWords_len x0.prefer.toNat; (try simp only [List.length_append, List.length_cons, List.length_nil]); omega), trivial⟩ ?_
          refine rg trivial ?_
          exact congrArg C15 hR
        ·
          refine rg trivial ?_
          exact congrArg C15 hR
  exact Fn.go 20 Tryd.func15 (by kernel_rfl) (by kernel_rfl) (by simp [C15, Frs, FrsL]) (A15 x0) (by kernel_rfl) (aux _ rfl)
def k15 (x0 : Custom) : Cl := (hres (C15 (implFormat x0)), k0 (ok_impl_FormatCustom x0))
def C14 (R : Custom × Bool) : LV × List (Nat × BC) := (.tup [.agg [.int .i64 R.1.prefer, .bool R.1.youngest, .bool R.1.represent], .bool R.2], [])
def implParse (x0 : List UInt8) : Custom × Bool := loopW (fun (v1 : Int) nx1 => bif (decide (v1 ≤ 4)) then (loopN (fun i2 (v2 : Unit) nx2 => loopN (fun i3 (v3 : Unit) next => bif ((implFormat (Custom.mk v1 ([false, true].getD i2 default) ([false, true].getD i3 default))) == x0) then ((Custom.mk v1 ([false, true].getD i2 default) ([false, true].getD i3 default)), true) else (next ())) (fun (v3 : Unit) => nx2 ()) 2 0 ()) (fun (v2 : Unit) => nx1 (v1 + 1)) 2 0 ()) else ((Custom.mk 0 false false), false)) (((5 : Int) - 0).toNat + 1) 0
def D14b1 (x0 : List UInt8) (v1 : Int) : Dl := ⟨[(4, .int .i64 v1)], []⟩
def D14b2 (x0 : List UInt8) (v1 : Int) (i2 : Nat) (v2 : Unit) : Dl := ⟨[(16, .int .i64 ((i2 : Nat) : Int))], []⟩
def D14b3 (x0 : List UInt8) (v1 : Int) (i2 : Nat) (v2 : Unit) (i3 : Nat) (v3 : Unit) : Dl := ⟨[(22, .int .i64 ((i3 : Nat) : Int))], []⟩
def A14b3 (x0 : List UInt8) (v1 : Int) (i2 : Nat) (v2 : Unit) (i3 : Nat) (v3 : Unit) : Ann := r0 1 [0, 2, 3, 4, 6, 14, 15, 16, 20, 21, 22, 23] [2, 14, 20] (cn (decide (((i3 : Nat) : Int) < 2)) (.reg 3 [] [(2001, k15 (Custom.mk v1 ([false, true].getD i2 default) ([false, true].getD i3 default)))] [0, 2, 3, 4, 6, 9, 14, 15, 16, 20, 21, 22, 33] [2, 9, 14, 20] [] [pf (0 ≤ (((i3 : Nat) : Int) : Int) ∧ (((i3 : Nat) : Int) : Int) < ((2 : Nat) : Int))] [] [0, 4] (cn ((implFormat (Custom.mk v1 ([false, true].getD i2 default) ([false, true].getD i3 default))) == x0) (r0 1 [0, 2, 3, 4, 6, 14, 15, 16, 20, 21, 22] [2, 14, 20] (rt [] (C14 ((Custom.mk v1 ([false, true].getD i2 default) ([false, true].getD i3 default)), true)))) (r1 1 [0, 2, 3, 4, 6, 14, 15, 16, 20, 21, 22] [2, 14, 20] [pf (inR .i64 (((i3 : Nat) : Int) + 1))] [0] (.next 0 [] (D14b3 x0 v1 i2 v2 (i3 + 1) ()))))) (r1 1 [0, 2, 3, 4, 14, 15, 16] [2, 14] [pf (inR .i64 (((i2 : Nat) : Int) + 1))] [0] (.next 1 [] (D14b2 x0 v1 (i2 + 1) ()))))
def A14b2 (x0 : List UInt8) (v1 : Int) (i2 : Nat) (v2 : Unit) : Ann := r0 1 [0, 2, 3, 4, 14, 15, 16, 17] [2, 14] (cn (decide (((i2 : Nat) : Int) < 2)) (.reg 2 [] [(1000, bsC 20 (cBool) ([false, true] : List Bool))] [0, 2, 3, 4, 6, 14, 15, 16, 20, 21, 22] [2, 14, 20] [] [pf (0 ≤ (((i2 : Nat) : Int) : Int) ∧ (((i2 : Nat) : Int) : Int) < ((2 : Nat) : Int))] [] [0, 4] (lp (D14b3 x0 v1 i2 v2) [] [] [] (D14b3 x0 v1 i2 v2 0 ()) (A14b3 x0 v1 i2 v2))) (r1 1 [0, 2, 3, 4] [2] [pf (inR .i64 (v1 + 1))] [0] (.next 1 [] (D14b1 x0 (v1 + 1)))))
def A14b1 (x0 : List UInt8) (v1 : Int) : Ann := r0 1 [0, 2, 3, 4, 11] [2] (cn (decide (v1 ≤ 4)) (.reg 1 [] [(0, bsC 14 (cBool) ([false, true] : List Bool))] [0, 2, 3, 4, 14, 15, 16] [2, 14] [] [] [] [0] (lp (D14b2 x0 v1) [] [] [] (D14b2 x0 v1 0 ()) (A14b2 x0 v1))) (r0 1 [2, 3] [2] (rt [] (C14 ((Custom.mk 0 false false), false)))))
def A14 (x0 : List UInt8) : Ann := r0 1 [0, 2, 3] [2] (r0 1 [0, 2, 3, 4] [2] (.loop Int (D14b1 x0) [] [] [] (D14b1 x0 0) (A14b1 x0)))
theorem ok_impl_ParseCustom (x0 : List UInt8) : FnT Tryd.prog 14 [.str x0] (C14 (implParse x0)) := by
  have aux : ∀ R, implParse x0 = R → slim (C14 R) (A14 x0) [] := by
    intro R hR
    refine rg trivial ?_
    refine rg trivial ?_
    revert hR; refine lW (fun v => 0 ≤ v ∧ v ≤ 5) (fun v => ((5 : Int) - v).toNat) (by (intros; omega)) (Nat.lt_succ_self _) rfl fun m1 v1 F1 hI1 hM1 hR hK1 => ?_
    refine rg trivial ?_
    revert hR; refine cd (fun hc1 hR => ?_) fun hc1 hR => ?_
    ·
      refine rg ⟨trivial, trivial⟩ ?_
      revert hR; refine lN (fun i v => True) (by exact True.intro) rfl fun i2 v2 F2 hn2 hI2 hR hK2 => ?_
      refine rg trivial ?_
      refine ⟨fun hc2 => ?_, fun hc2 => ?_⟩
      · have hii2 : i2 < 2 := by have := of_decide_eq_true hc2; omega
        replace hR := loopN_step hR hii2
        refine rg ⟨by (intros; omega), trivial, trivial⟩ ?_
        revert hR; refine lN (fun i v => True) (by exact True.intro) rfl fun i3 v3 F3 hn3 hI3 hR hK3 => ?_
        refine rg trivial ?_
        refine ⟨fun hc3 => ?_, fun hc3 => ?_⟩
        · have hii3 : i3 < 2 := by have := of_decide_eq_true hc3; omega
          replace hR := loopN_step hR hii3
          refine rg ⟨by (intros; omega), trivial, trivial⟩ ?_
          revert hR; refine cd (fun hc4 hR => ?_) fun hc4 hR => ?_
          ·
            refine rg trivial ?_
            exact congrArg C14 hR
          ·
            refine rg ⟨by ( intros; simp only [inR]; omega), trivial⟩ ?_
            exact hK3 () hii3 (by exact True.intro) hR
        · obtain rfl : i3 = 2 := by have := of_decide_eq_false hc3; omega
          replace hR := loopN_end hR (Nat.lt_irrefl _)
          refine rg ⟨by ( intros; simp only [inR]; omega), trivial⟩ ?_
          exact hK2 () hii2 (by exact True.intro) hR
      · obtain rfl : i2 = 2 := by have := of_decide_eq_false hc2; omega
        replace hR := loopN_end hR (Nat.lt_irrefl _)
        refine rg ⟨by ( intros; simp only [inR]; omega), trivial⟩ ?_
        exact hK1 (v1 + 1) (by ((try clear hR hK1 hK2); intros; (try simp only [decide_eq_true_eq, decide_eq_false_iff_not, Bool.or_eq_true, Bool.and_eq_true, or_f_iff, not_f_iff, not_t_iff, Bool.not_eq_true', inR] at *); (repeat' apply And.intro) <;> (intros; omega))) (by ((try clear hR hK1 hK2); intros; (try simp only [decide_eq_true_eq, decide_eq_false_iff_not, Bool.or_eq_true, Bool.and_eq_true, or_f_iff, not_f_iff, not_t_iff, Bool.not_eq_true', inR] at *); (repeat' apply And.intro) <;> (intros; omega))) hR
    ·
      refine rg trivial ?_
      exact congrArg C14 hR
  exact Fn.go 38 Tryd.func14 (by kernel_rfl) (by kernel_rfl) (by simp [C14, Frs, FrsL]) (A14 x0) (by kernel_rfl) (aux _ rfl)
def k14 (x0 : List UInt8) : Cl := (hres (C14 (implParse x0)), k0 (ok_impl_ParseCustom x0))
end Go.Proofs.YtepefimocflfkabDoor
