import Derived.Test.YtkkijpibajigfaaM9
set_option maxHeartbeats 4000000
set_option linter.unusedSimpArgs false
set_option linter.unusedVariables false
namespace Go.Proofs.Ytkkijpibajigfaa
open Go Go.Lite Go.Proofs
def C63 (R : Bool) : LV × List (Nat × BC) := (.bool R, [])
def eqIntS (x0 : List Int) (x1 : List Int) : Bool := bif (!decide (((x0.length : Nat) : Int) = ((x1.length : Nat) : Int))) then false else (loopN (fun i1 (v1 : Unit) next => bif (!decide ((x0.getD i1 default) = (x1.getD i1 default))) then false else (next ())) (fun (v1 : Unit) => true) x0.length 0 ())
def D63b1 (x0 : List Int) (x1 : List Int) (i1 : Nat) (v1 : Unit) : Dl := ⟨[(5, .int .i64 ((i1 : Nat) : Int))], []⟩
def A63b1 (x0 : List Int) (x1 : List Int) (i1 : Nat) (v1 : Unit) : Ann := r0 1 [0, 1, 4, 5, 14] [] (cn (decide (((i1 : Nat) : Int) < ((x0.length : Nat) : Int))) (r1 1 [0, 1, 4, 5, 25] [] [pf (0 ≤ (((i1 : Nat) : Int) : Int) ∧ (((i1 : Nat) : Int) : Int) < ((x0.length : Nat) : Int)), pf (0 ≤ (((i1 : Nat) : Int) : Int) ∧ (((i1 : Nat) : Int) : Int) < ((x1.length : Nat) : Int))] [0, 4] (cn (!decide ((x0.getD i1 default) = (x1.getD i1 default))) (r0 1 [0, 1, 4, 5] [] (rt [] (C63 false))) (r1 1 [0, 1, 4, 5] [] [pf (inR .i64 (((i1 : Nat) : Int) + 1))] [0] (.next 0 [] (D63b1 x0 x1 (i1 + 1) ()))))) (r0 1 [4] [] (rt [] (C63 true))))
def A63 (x0 : List Int) (x1 : List Int) : Ann := r0 1 [0, 1, 4] [] (r0 1 [0, 1, 4, 10] [] (cn (!decide (((x0.length : Nat) : Int) = ((x1.length : Nat) : Int))) (r0 1 [0, 1, 4] [] (rt [] (C63 false))) (r0 1 [0, 1, 4, 5] [] (lp (D63b1 x0 x1) [] [] [] (D63b1 x0 x1 0 ()) (A63b1 x0 x1)))))
theorem eqIntS_self (x : List Int) : eqIntS x x = true := by
  unfold eqIntS
  refine cond_both (p := fun r => r = true) (fun c => by simp at c) (fun _ => ?_)
  exact loopN_inv (fun _ _ => True) (fun r => r = true) (fun i v next _ hn => cond_both (p := fun r => r = true) (fun c => by simp at c) (fun _ => hn _ trivial)) (fun _ _ _ => rfl) _ _ _ trivial
theorem ok_laws_eqIntS (x0 : List Int) (x1 : List Int) (hx : x0.length ≤ 1048576) : FnT Try.prog 63 [.ro false 1 x0.length (rowOf (cInt .i64) x0), .ro false 1 x1.length (rowOf (cInt .i64) x1)] (C63 (eqIntS x0 x1)) := by
  have aux : ∀ R, eqIntS x0 x1 = R → slim (C63 R) (A63 x0 x1) [] := by
    intro R hR
    refine rg trivial ?_
    refine rg trivial ?_
    revert hR; refine cd (fun hc1 hR => ?_) fun hc1 hR => ?_
    ·
      refine rg trivial ?_
      exact congrArg C63 hR
    ·
      refine rg trivial ?_
      revert hR; refine lN (fun i v => True) (by trivial) rfl fun i1 v1 F1 hn1 hI1 hR hK1 => ?_
      refine rg trivial ?_
      refine ⟨fun hc2 => ?_, fun hc2 => ?_⟩
      · have hii1 : i1 < x0.length := by have := of_decide_eq_true hc2; omega
        replace hR := loopN_step hR hii1
        refine rg ⟨by (intros; omega), by ((try clear hR hK1); intros; (try simp only [decide_eq_true_eq, decide_eq_false_iff_not, Bool.or_eq_true, Bool.and_eq_true, or_f_iff, not_f_iff, not_t_iff, Bool.not_eq_true', inR] at *); (repeat' apply And.intro) <;> (intros; omega)), trivial⟩ ?_
        revert hR; refine cd (fun hc3 hR => ?_) fun hc3 hR => ?_
        ·
          refine rg trivial ?_
          exact congrArg C63 hR
        ·
          refine rg ⟨by ( intros; simp only [inR]; omega), trivial⟩ ?_
          exact hK1 () hii1 (by trivial) hR
      · obtain rfl : i1 = x0.length := by have := of_decide_eq_false hc2; omega
        replace hR := loopN_end hR (Nat.lt_irrefl _)
        refine rg trivial ?_
        exact congrArg C63 hR
  exact Fn.go 26 Try.func63 (by kernel_rfl) (by kernel_rfl) (by simp [C63, Frs, FrsL]) (A63 x0 x1) (by kernel_rfl) (aux _ rfl)
def k63 (x0 : List Int) (x1 : List Int) : Cl := (hres (C63 (eqIntS x0 x1)), k1 (ok_laws_eqIntS x0 x1))
def C112 (R : (List UInt8)) : LV × List (Nat × BC) := (.str R, [])
def markText (x0 : Int) : (List UInt8) := bif (decide (x0 ≤ 0)) then [109, 48] else (loopW (fun (v1 : Int × (List UInt8)) next => bif (decide (0 < v1.1)) then (next (v1.1.tdiv 10, (List.map Lite.byteOf ([IntKind.wrap .u8 (48 + (v1.1.tmod 10))] : List Int)) ++ v1.2)) else ([109] ++ v1.2)) (x0.toNat + 1) (x0, ([] : List UInt8)))
def D112b1 (x0 : Int) (v1 : Int × (List UInt8)) : Dl := ⟨[(0, .int .i64 v1.1), (3, .str v1.2)], []⟩
def A112b1 (x0 : Int) (v1 : Int × (List UInt8)) : Ann := r0 1 [0, 2, 3, 7] [] (cn (decide (0 < v1.1)) (.reg 1 [(3, .wrap), (5, .ints ([IntKind.wrap .u8 (48 + (v1.1.tmod 10))] : List Int))] [(4, bsC 12 (cInt .u8) ([IntKind.wrap .u8 (48 + (v1.1.tmod 10))] : List Int))] [0, 2, 3] [] [] [pf ((10 : Int) ≠ 0), pf (inR .i64 (48 + (v1.1.tmod 10))), pf ((((List.map Lite.byteOf ([IntKind.wrap .u8 (48 + (v1.1.tmod 10))] : List Int)).length + v1.2.length : Nat) : Int) ≤ 9223372036854775807)] [zf (P := 1 = ([IntKind.wrap .u8 (48 + (v1.1.tmod 10))] : List Int).length ∧ ∀ k, k < 1 → (rowOf (cInt .u8) [IntKind.wrap .u8 (48 + (v1.1.tmod 10))]) k = [.int .u8 (([IntKind.wrap .u8 (48 + (v1.1.tmod 10))] : List Int).getD k default)]) (⟨by first | rfl | simp, fun _ _ => rfl⟩)] [0, 4, 12, 3, 8] (r1 1 [0, 2, 3] [] [pf ((10 : Int) ≠ 0), pf (inR .i64 (v1.1.tdiv 10))] [0, 4] (.next 0 [] (D112b1 x0 (v1.1.tdiv 10, (List.map Lite.byteOf ([IntKind.wrap .u8 (48 + (v1.1.tmod 10))] : List Int)) ++ v1.2))))) (r1 1 [2] [] [pf ((([109].length + v1.2.length : Nat) : Int) ≤ 9223372036854775807)] [0] (rt [] (C112 ([109] ++ v1.2)))))
def A112 (x0 : Int) : Ann := r0 1 [0, 2] [] (r0 1 [0, 2, 5] [] (cn (decide (x0 ≤ 0)) (r0 1 [0, 2] [] (rt [] (C112 [109, 48]))) (r0 1 [0, 2, 3] [] (.loop (Int × (List UInt8)) (D112b1 x0) [] [] [] (D112b1 x0 (x0, ([] : List UInt8))) (A112b1 x0)))))
theorem ok_laws_markText (x0 : Int) (hk : x0 ≤ 60000000) : FnT Try.prog 112 [.int .i64 x0] (C112 (markText x0)) := by
  have aux : ∀ R, markText x0 = R → slim (C112 R) (A112 x0) [] := by
    intro R hR
    refine rg trivial ?_
    refine rg trivial ?_
    revert hR; refine cd (fun hc1 hR => ?_) fun hc1 hR => ?_
    ·
      refine rg trivial ?_
      exact congrArg C112 hR
    ·
      refine rg trivial ?_
      revert hR; refine lW (fun v => (0 ≤ v.1 ∧ v.1 ≤ 60000000) ∧ v.2.length + v.1.toNat ≤ 60000000) (fun v => v.1.toNat) (by ((try clear hR); intros; (try simp only [decide_eq_true_eq, decide_eq_false_iff_not, Bool.or_eq_true, Bool.and_eq_true, or_f_iff, not_f_iff, not_t_iff, Bool.not_eq_true', inR] at *); (repeat' apply And.intro) <;> (first | (intros; omega) | (simp only [List.length_append, List.length_map, List.length_cons, List.length_nil]; omega)))) (Nat.lt_succ_self _) rfl fun m1 v1 F1 hI1 hM1 hR hK1 => ?_
      refine rg trivial ?_
      revert hR; refine cd (fun hc2 hR => ?_) fun hc2 hR => ?_
      ·
        refine rg ⟨by trivial, by ((try clear hR hK1); intros; (try simp only [decide_eq_true_eq, decide_eq_false_iff_not, Bool.or_eq_true, Bool.and_eq_true, or_f_iff, not_f_iff, not_t_iff, Bool.not_eq_true', inR] at *); (repeat' apply And.intro) <;> (have e := Int.tmod_eq_emod_of_nonneg (a := v1.1) (b := 10) (by omega); omega)), by (have e := Int.tdiv_eq_ediv_of_nonneg (a := v1.1) (b := 10) (by omega); simp only [List.length_append, List.length_map, List.length_cons, List.length_nil]; omega), trivial, trivial⟩ ?_
        refine rg ⟨by trivial, by ((try clear hR hK1); intros; (try simp only [decide_eq_true_eq, decide_eq_false_iff_not, Bool.or_eq_true, Bool.and_eq_true, or_f_iff, not_f_iff, not_t_iff, Bool.not_eq_true', inR] at *); (repeat' apply And.intro) <;> (have e := Int.tdiv_eq_ediv_of_nonneg (a := v1.1) (b := 10) (by omega); omega)), trivial⟩ ?_
        exact hK1 (v1.1.tdiv 10, (List.map Lite.byteOf ([IntKind.wrap .u8 (48 + (v1.1.tmod 10))] : List Int)) ++ v1.2) (by ((try clear hR hK1); intros; (try simp only [decide_eq_true_eq, decide_eq_false_iff_not, Bool.or_eq_true, Bool.and_eq_true, or_f_iff, not_f_iff, not_t_iff, Bool.not_eq_true', inR] at *); (repeat' apply And.intro) <;> (first | (have e := Int.tdiv_eq_ediv_of_nonneg (a := v1.1) (b := 10) (by omega); omega) | (have e := Int.tdiv_eq_ediv_of_nonneg (a := v1.1) (b := 10) (by omega); simp only [List.length_append, List.length_map, List.length_cons, List.length_nil]; omega)))) (by ((try clear hR hK1); intros; (try simp only [decide_eq_true_eq, decide_eq_false_iff_not, Bool.or_eq_true, Bool.and_eq_true, or_f_iff, not_f_iff, not_t_iff, Bool.not_eq_true', inR] at *); (repeat' apply And.intro) <;> (have e := Int.tdiv_eq_ediv_of_nonneg (a := v1.1) (b := 10) (by omega); omega))) hR
      ·
        refine rg ⟨by (have e := Int.tdiv_eq_ediv_of_nonneg (a := v1.1) (b := 10) (by omega); simp only [List.length_append, List.length_map, List.length_cons, List.length_nil]; omega), trivial⟩ ?_
        exact congrArg C112 hR
  exact Fn.go 20 Try.func112 (by kernel_rfl) (by kernel_rfl) (by simp [C112, Frs, FrsL]) (A112 x0) (by kernel_rfl) (aux _ rfl)
def k112 (x0 : Int) : Cl := (hres (C112 (markText x0)), k1 (ok_laws_markText x0))
def C66 (x0 : List Int) (x1 : Int) (R : Int × (List Int)) : LV × List (Nat × BC) := (.int .i64 R.1, [(900000, .arr 1 R.2.length (rowOf (cInt .i64) R.2))])
def markIntS (x0 : List Int) (x1 : Int) : Int × (List Int) := loopN (fun i1 (v1 : (List Int) × Int) next => next ((v1.1.set i1 v1.2), v1.2 + 1)) (fun (v1 : (List Int) × Int) => (v1.2, v1.1)) x0.length 0 (x0, x1)
def D66b1 (x0 : List Int) (x1 : Int) (i1 : Nat) (v1 : (List Int) × Int) : Dl := ⟨[(5, .int .i64 ((i1 : Nat) : Int)), (0, .own 900000), (1, .int .i64 v1.2)], [(900000, .arr 1 x0.length (rowOf (cInt .i64) v1.1))]⟩
def A66b1 (x0 : List Int) (x1 : Int) (i1 : Nat) (v1 : (List Int) × Int) : Ann := r0 1 [0, 1, 4, 5, 9] [900000] (cn (decide (((i1 : Nat) : Int) < ((x0.length : Nat) : Int))) (.reg 1 [] [(4, stC 900000 (cInt .i64) x0.length v1.1 i1 v1.2)] [0, 1, 4, 5] [900000] [] [pf (0 ≤ (((i1 : Nat) : Int) : Int) ∧ (((i1 : Nat) : Int) : Int) < ((x0.length : Nat) : Int))] [] [0, 4] (r1 1 [0, 1, 4, 5] [900000] [pf (inR .i64 (v1.2 + 1))] [0] (r1 1 [0, 1, 4, 5] [900000] [pf (inR .i64 (((i1 : Nat) : Int) + 1))] [0] (.next 0 [(900000, some 900000)] (D66b1 x0 x1 (i1 + 1) ((v1.1.set i1 v1.2), v1.2 + 1)))))) (r0 1 [4] [900000] (.co false 900000 v1.1.length (rowOf (cInt .i64) v1.1) [lnP (rowOf (cInt .i64) v1.1) x0.length v1.1.length] [] 0 (rt [(900000, some 900000)] (C66 x0 x1 (v1.2, v1.1))))))
def A66 (x0 : List Int) (x1 : Int) : Ann := r0 1 [0, 1, 4] [900000] (r0 1 [0, 1, 4, 5] [900000] (lp (D66b1 x0 x1) [] [] [(900000, some 900000)] (D66b1 x0 x1 0 (x0, x1)) (A66b1 x0 x1)))
theorem ok_laws_markIntS (x0 : List Int) (x1 : Int) (hx : x0.length ≤ 1048576) (hk : 0 ≤ x1 ∧ x1 ≤ 30000000) : FnMT Try.prog 66 [.own 900000, .int .i64 x1] [.arr 1 x0.length (rowOf (cInt .i64) x0)] (C66 x0 x1 (markIntS x0 x1)) := by
  have aux : ∀ R, markIntS x0 x1 = R → slim (C66 x0 x1 R) (A66 x0 x1) [] := by
    intro R hR
    refine rg trivial ?_
    refine rg trivial ?_
    revert hR; refine lN (fun i v => v.1.length = x0.length ∧ v.2 = x1 + 1 * i) (by ((try clear hR); intros; (try simp only [decide_eq_true_eq, decide_eq_false_iff_not, Bool.or_eq_true, Bool.and_eq_true, or_f_iff, not_f_iff, not_t_iff, Bool.not_eq_true', inR] at *); (repeat' apply And.intro) <;> (first | (intros; omega) | (simp_all [inR]; done)))) rfl fun i1 v1 F1 hn1 hI1 hR hK1 => ?_
    refine rg trivial ?_
    refine ⟨fun hc1 => ?_, fun hc1 => ?_⟩
    · have hii1 : i1 < x0.length := by have := of_decide_eq_true hc1; omega
      replace hR := loopN_step hR hii1
      refine rg ⟨by (intros; omega), by (intros; omega), trivial⟩ ?_
      refine rg ⟨by ( intros; simp only [inR]; omega), trivial⟩ ?_
      refine rg ⟨by ( intros; simp only [inR]; omega), trivial⟩ ?_
      exact hK1 ((v1.1.set i1 v1.2), v1.2 + 1) hii1 (by (simp only [List.length_set]; omega)) hR
    · obtain rfl : i1 = x0.length := by have := of_decide_eq_false hc1; omega
      replace hR := loopN_end hR (Nat.lt_irrefl _)
      refine rg trivial ?_
      refine og (by (intros; omega)) ?_
      exact congrArg (C66 x0 x1) hR
  exact FnM.go 19 Try.func66 (by kernel_rfl) (by kernel_rfl) (A66 x0 x1) (by kernel_rfl) (aux _ rfl)
def k66 (d : Nat) (ids : List Nat) (x0 : List Int) (x1 : Int) : Cl := (hresM d ids (C66 x0 x1 (markIntS x0 x1)), k2 (ok_laws_markIntS x0 x1))
def C64 (x0 : List Person) (x1 : Int) (R : Int × (List Person)) : LV × List (Nat × BC) := (.int .i64 R.1, [(900000, .arr 6 R.2.length (rowOf (cPerson true) R.2))])
def markPersonS (x0 : List Person) (x1 : Int) : Int × (List Person) := loopN (fun i1 (v1 : (List Person) × Int) next => next ((v1.1.set i1 (Person.mk (markText v1.2) (v1.2 + 1) ((v1.2 + 1) + 1) (((v1.2 + 1) + 1) + 1) ((((v1.2 + 1) + 1) + 1) + 1) (((((v1.2 + 1) + 1) + 1) + 1) + 1))), (((((v1.2 + 1) + 1) + 1) + 1) + 1) + 1)) (fun (v1 : (List Person) × Int) => (v1.2, v1.1)) x0.length 0 (x0, x1)
def D64b1 (x0 : List Person) (x1 : Int) (i1 : Nat) (v1 : (List Person) × Int) : Dl := ⟨[(5, .int .i64 ((i1 : Nat) : Int)), (0, .own 900000), (1, .int .i64 v1.2)], [(900000, .arr 6 x0.length (rowOf (cPerson true) v1.1))]⟩
def A64b1 (x0 : List Person) (x1 : Int) (i1 : Nat) (v1 : (List Person) × Int) : Ann := r0 1 [0, 1, 4, 5, 9] [900000] (cn (decide (((i1 : Nat) : Int) < ((x0.length : Nat) : Int))) (.reg 11 [] [(3, k112 v1.2), (6, stP 900000 (cPerson true) x0.length v1.1 v1.1 i1 0 [.str (markText v1.2)] (Person.mk (markText v1.2) ((v1.1.getD i1 default).sex) ((v1.1.getD i1 default).father) ((v1.1.getD i1 default).mother) ((v1.1.getD i1 default).born) ((v1.1.getD i1 default).died)) (v1.1.getD i1 default) (.inr ⟨rfl, rfl⟩) rfl), (2005, stP 900000 (cPerson true) x0.length v1.1 (v1.1.set i1 (Person.mk (markText v1.2) ((v1.1.getD i1 default).sex) ((v1.1.getD i1 default).father) ((v1.1.getD i1 default).mother) ((v1.1.getD i1 default).born) ((v1.1.getD i1 default).died))) i1 1 [.int .i64 (v1.2 + 1)] (Person.mk (markText v1.2) (v1.2 + 1) ((v1.1.getD i1 default).father) ((v1.1.getD i1 default).mother) ((v1.1.getD i1 default).born) ((v1.1.getD i1 default).died)) (Person.mk (markText v1.2) ((v1.1.getD i1 default).sex) ((v1.1.getD i1 default).father) ((v1.1.getD i1 default).mother) ((v1.1.getD i1 default).born) ((v1.1.getD i1 default).died)) (.inl rfl) rfl), (4005, stP 900000 (cPerson true) x0.length v1.1 (v1.1.set i1 (Person.mk (markText v1.2) (v1.2 + 1) ((v1.1.getD i1 default).father) ((v1.1.getD i1 default).mother) ((v1.1.getD i1 default).born) ((v1.1.getD i1 default).died))) i1 2 [.int .i64 ((v1.2 + 1) + 1)] (Person.mk (markText v1.2) (v1.2 + 1) ((v1.2 + 1) + 1) ((v1.1.getD i1 default).mother) ((v1.1.getD i1 default).born) ((v1.1.getD i1 default).died)) (Person.mk (markText v1.2) (v1.2 + 1) ((v1.1.getD i1 default).father) ((v1.1.getD i1 default).mother) ((v1.1.getD i1 default).born) ((v1.1.getD i1 default).died)) (.inl rfl) rfl), (6005, stP 900000 (cPerson true) x0.length v1.1 (v1.1.set i1 (Person.mk (markText v1.2) (v1.2 + 1) ((v1.2 + 1) + 1) ((v1.1.getD i1 default).mother) ((v1.1.getD i1 default).born) ((v1.1.getD i1 default).died))) i1 3 [.int .i64 (((v1.2 + 1) + 1) + 1)] (Person.mk (markText v1.2) (v1.2 + 1) ((v1.2 + 1) + 1) (((v1.2 + 1) + 1) + 1) ((v1.1.getD i1 default).born) ((v1.1.getD i1 default).died)) (Person.mk (markText v1.2) (v1.2 + 1) ((v1.2 + 1) + 1) ((v1.1.getD i1 default).mother) ((v1.1.getD i1 default).born) ((v1.1.getD i1 default).died)) (.inl rfl) rfl), (8005, stP 900000 (cPerson true) x0.length v1.1 (v1.1.set i1 (Person.mk (markText v1.2) (v1.2 + 1) ((v1.2 + 1) + 1) (((v1.2 + 1) + 1) + 1) ((v1.1.getD i1 default).born) ((v1.1.getD i1 default).died))) i1 4 [.int .i64 ((((v1.2 + 1) + 1) + 1) + 1)] (Person.mk (markText v1.2) (v1.2 + 1) ((v1.2 + 1) + 1) (((v1.2 + 1) + 1) + 1) ((((v1.2 + 1) + 1) + 1) + 1) ((v1.1.getD i1 default).died)) (Person.mk (markText v1.2) (v1.2 + 1) ((v1.2 + 1) + 1) (((v1.2 + 1) + 1) + 1) ((v1.1.getD i1 default).born) ((v1.1.getD i1 default).died)) (.inl rfl) rfl), (10005, stP 900000 (cPerson true) x0.length v1.1 (v1.1.set i1 (Person.mk (markText v1.2) (v1.2 + 1) ((v1.2 + 1) + 1) (((v1.2 + 1) + 1) + 1) ((((v1.2 + 1) + 1) + 1) + 1) ((v1.1.getD i1 default).died))) i1 5 [.int .i64 (((((v1.2 + 1) + 1) + 1) + 1) + 1)] (Person.mk (markText v1.2) (v1.2 + 1) ((v1.2 + 1) + 1) (((v1.2 + 1) + 1) + 1) ((((v1.2 + 1) + 1) + 1) + 1) (((((v1.2 + 1) + 1) + 1) + 1) + 1)) (Person.mk (markText v1.2) (v1.2 + 1) ((v1.2 + 1) + 1) (((v1.2 + 1) + 1) + 1) ((((v1.2 + 1) + 1) + 1) + 1) ((v1.1.getD i1 default).died)) (.inl rfl) rfl)] [0, 1, 4, 5] [900000] [] [pf (0 ≤ (((i1 : Nat) : Int) : Int) ∧ (((i1 : Nat) : Int) : Int) < ((x0.length : Nat) : Int)), pf (inR .i64 (v1.2 + 1)), pf (inR .i64 ((v1.2 + 1) + 1)), pf (inR .i64 (((v1.2 + 1) + 1) + 1)), pf (inR .i64 ((((v1.2 + 1) + 1) + 1) + 1)), pf (inR .i64 (((((v1.2 + 1) + 1) + 1) + 1) + 1))] [] [24, 0, 28, 4, 0, 32, 8, 0, 36, 12, 0, 40, 16, 0, 44, 20, 0, 48] (r1 1 [0, 1, 4, 5] [900000] [pf (inR .i64 ((((((v1.2 + 1) + 1) + 1) + 1) + 1) + 1))] [0] (r1 1 [0, 1, 4, 5] [900000] [pf (inR .i64 (((i1 : Nat) : Int) + 1))] [0] (.next 0 [(900000, some 900000)] (D64b1 x0 x1 (i1 + 1) ((v1.1.set i1 (Person.mk (markText v1.2) (v1.2 + 1) ((v1.2 + 1) + 1) (((v1.2 + 1) + 1) + 1) ((((v1.2 + 1) + 1) + 1) + 1) (((((v1.2 + 1) + 1) + 1) + 1) + 1))), (((((v1.2 + 1) + 1) + 1) + 1) + 1) + 1)))))) (r0 1 [4] [900000] (.co false 900000 v1.1.length (rowOf (cPerson true) v1.1) [lnP (rowOf (cPerson true) v1.1) x0.length v1.1.length] [] 0 (rt [(900000, some 900000)] (C64 x0 x1 (v1.2, v1.1))))))
def A64 (x0 : List Person) (x1 : Int) : Ann := r0 1 [0, 1, 4] [900000] (r0 1 [0, 1, 4, 5] [900000] (lp (D64b1 x0 x1) [] [] [(900000, some 900000)] (D64b1 x0 x1 0 (x0, x1)) (A64b1 x0 x1)))
theorem ok_laws_markPersonS (x0 : List Person) (x1 : Int) (hx : x0.length ≤ 1048576) (hk : 0 ≤ x1 ∧ x1 ≤ 30000000) : FnMT Try.prog 64 [.own 900000, .int .i64 x1] [.arr 6 x0.length (rowOf (cPerson true) x0)] (C64 x0 x1 (markPersonS x0 x1)) := by
  have aux : ∀ R, markPersonS x0 x1 = R → slim (C64 x0 x1 R) (A64 x0 x1) [] := by
    intro R hR
    refine rg trivial ?_
    refine rg trivial ?_
    revert hR; refine lN (fun i v => v.1.length = x0.length ∧ v.2 = x1 + 6 * i) (by ((try clear hR); intros; (try simp only [decide_eq_true_eq, decide_eq_false_iff_not, Bool.or_eq_true, Bool.and_eq_true, or_f_iff, not_f_iff, not_t_iff, Bool.not_eq_true', inR] at *); (repeat' apply And.intro) <;> (first | (intros; omega) | (simp_all [inR]; done)))) rfl fun i1 v1 F1 hn1 hI1 hR hK1 => ?_
    refine rg trivial ?_
    refine ⟨fun hc1 => ?_, fun hc1 => ?_⟩
    · have hii1 : i1 < x0.length := by have := of_decide_eq_true hc1; omega
      replace hR := loopN_step hR hii1
      refine rg ⟨by (intros; omega), by ( intros; simp only [inR]; omega), by ( intros; simp only [inR]; omega), by ( intros; simp only [inR]; omega), by ( intros; simp only [inR]; omega), by ( intros; simp only [inR]; omega), by (intros; omega), by (intros; omega), by (intros; omega), by (intros; omega), by (intros; omega), by (intros; omega), by (intros; omega), trivial⟩ ?_
      refine rg ⟨by ( intros; simp only [inR]; omega), trivial⟩ ?_
      refine rg ⟨by ( intros; simp only [inR]; omega), trivial⟩ ?_
      exact hK1 ((v1.1.set i1 (Person.mk (markText v1.2) (v1.2 + 1) ((v1.2 + 1) + 1) (((v1.2 + 1) + 1) + 1) ((((v1.2 + 1) + 1) + 1) + 1) (((((v1.2 + 1) + 1) + 1) + 1) + 1))), (((((v1.2 + 1) + 1) + 1) + 1) + 1) + 1) hii1 (by (simp only [List.length_set]; omega)) hR
    · obtain rfl : i1 = x0.length := by have := of_decide_eq_false hc1; omega
      replace hR := loopN_end hR (Nat.lt_irrefl _)
      refine rg trivial ?_
      refine og (by (intros; omega)) ?_
      exact congrArg (C64 x0 x1) hR
  exact FnM.go 56 Try.func64 (by kernel_rfl) (by kernel_rfl) (A64 x0 x1) (by kernel_rfl) (aux _ rfl)
def k64 (d : Nat) (ids : List Nat) (x0 : List Person) (x1 : Int) : Cl := (hresM d ids (C64 x0 x1 (markPersonS x0 x1)), k2 (ok_laws_markPersonS x0 x1))
def C65 (x0 : List Union) (x1 : Int) (R : Int × (List Union)) : LV × List (Nat × BC) := (.int .i64 R.1, [(900000, .arr 4 R.2.length (rowOf (cUnion true) R.2))])
def markUnionS (x0 : List Union) (x1 : Int) : Int × (List Union) := loopN (fun i1 (v1 : (List Union) × Int) next => next ((v1.1.set i1 (Union.mk v1.2 (v1.2 + 1) ((v1.2 + 1) + 1) (((v1.2 + 1) + 1) + 1))), (((v1.2 + 1) + 1) + 1) + 1)) (fun (v1 : (List Union) × Int) => (v1.2, v1.1)) x0.length 0 (x0, x1)
def D65b1 (x0 : List Union) (x1 : Int) (i1 : Nat) (v1 : (List Union) × Int) : Dl := ⟨[(5, .int .i64 ((i1 : Nat) : Int)), (0, .own 900000), (1, .int .i64 v1.2)], [(900000, .arr 4 x0.length (rowOf (cUnion true) v1.1))]⟩
def A65b1 (x0 : List Union) (x1 : Int) (i1 : Nat) (v1 : (List Union) × Int) : Ann := r0 1 [0, 1, 4, 5, 9] [900000] (cn (decide (((i1 : Nat) : Int) < ((x0.length : Nat) : Int))) (.reg 7 [] [(5, stP 900000 (cUnion true) x0.length v1.1 v1.1 i1 0 [.int .i64 v1.2] (Union.mk v1.2 ((v1.1.getD i1 default).woman) ((v1.1.getD i1 default).from0) ((v1.1.getD i1 default).to)) (v1.1.getD i1 default) (.inr ⟨rfl, rfl⟩) rfl), (2005, stP 900000 (cUnion true) x0.length v1.1 (v1.1.set i1 (Union.mk v1.2 ((v1.1.getD i1 default).woman) ((v1.1.getD i1 default).from0) ((v1.1.getD i1 default).to))) i1 1 [.int .i64 (v1.2 + 1)] (Union.mk v1.2 (v1.2 + 1) ((v1.1.getD i1 default).from0) ((v1.1.getD i1 default).to)) (Union.mk v1.2 ((v1.1.getD i1 default).woman) ((v1.1.getD i1 default).from0) ((v1.1.getD i1 default).to)) (.inl rfl) rfl), (4005, stP 900000 (cUnion true) x0.length v1.1 (v1.1.set i1 (Union.mk v1.2 (v1.2 + 1) ((v1.1.getD i1 default).from0) ((v1.1.getD i1 default).to))) i1 2 [.int .i64 ((v1.2 + 1) + 1)] (Union.mk v1.2 (v1.2 + 1) ((v1.2 + 1) + 1) ((v1.1.getD i1 default).to)) (Union.mk v1.2 (v1.2 + 1) ((v1.1.getD i1 default).from0) ((v1.1.getD i1 default).to)) (.inl rfl) rfl), (6005, stP 900000 (cUnion true) x0.length v1.1 (v1.1.set i1 (Union.mk v1.2 (v1.2 + 1) ((v1.2 + 1) + 1) ((v1.1.getD i1 default).to))) i1 3 [.int .i64 (((v1.2 + 1) + 1) + 1)] (Union.mk v1.2 (v1.2 + 1) ((v1.2 + 1) + 1) (((v1.2 + 1) + 1) + 1)) (Union.mk v1.2 (v1.2 + 1) ((v1.2 + 1) + 1) ((v1.1.getD i1 default).to)) (.inl rfl) rfl)] [0, 1, 4, 5] [900000] [] [pf (0 ≤ (((i1 : Nat) : Int) : Int) ∧ (((i1 : Nat) : Int) : Int) < ((x0.length : Nat) : Int)), pf (inR .i64 (v1.2 + 1)), pf (inR .i64 ((v1.2 + 1) + 1)), pf (inR .i64 (((v1.2 + 1) + 1) + 1))] [] [0, 16, 4, 0, 20, 8, 0, 24, 12, 0, 28] (r1 1 [0, 1, 4, 5] [900000] [pf (inR .i64 ((((v1.2 + 1) + 1) + 1) + 1))] [0] (r1 1 [0, 1, 4, 5] [900000] [pf (inR .i64 (((i1 : Nat) : Int) + 1))] [0] (.next 0 [(900000, some 900000)] (D65b1 x0 x1 (i1 + 1) ((v1.1.set i1 (Union.mk v1.2 (v1.2 + 1) ((v1.2 + 1) + 1) (((v1.2 + 1) + 1) + 1))), (((v1.2 + 1) + 1) + 1) + 1)))))) (r0 1 [4] [900000] (.co false 900000 v1.1.length (rowOf (cUnion true) v1.1) [lnP (rowOf (cUnion true) v1.1) x0.length v1.1.length] [] 0 (rt [(900000, some 900000)] (C65 x0 x1 (v1.2, v1.1))))))
def A65 (x0 : List Union) (x1 : Int) : Ann := r0 1 [0, 1, 4] [900000] (r0 1 [0, 1, 4, 5] [900000] (lp (D65b1 x0 x1) [] [] [(900000, some 900000)] (D65b1 x0 x1 0 (x0, x1)) (A65b1 x0 x1)))
theorem ok_laws_markUnionS (x0 : List Union) (x1 : Int) (hx : x0.length ≤ 1048576) (hk : 0 ≤ x1 ∧ x1 ≤ 30000000) : FnMT Try.prog 65 [.own 900000, .int .i64 x1] [.arr 4 x0.length (rowOf (cUnion true) x0)] (C65 x0 x1 (markUnionS x0 x1)) := by
  have aux : ∀ R, markUnionS x0 x1 = R → slim (C65 x0 x1 R) (A65 x0 x1) [] := by
    intro R hR
    refine rg trivial ?_
    refine rg trivial ?_
    revert hR; refine lN (fun i v => v.1.length = x0.length ∧ v.2 = x1 + 4 * i) (by ((try clear hR); intros; (try simp only [decide_eq_true_eq, decide_eq_false_iff_not, Bool.or_eq_true, Bool.and_eq_true, or_f_iff, not_f_iff, not_t_iff, Bool.not_eq_true', inR] at *); (repeat' apply And.intro) <;> (first | (intros; omega) | (simp_all [inR]; done)))) rfl fun i1 v1 F1 hn1 hI1 hR hK1 => ?_
    refine rg trivial ?_
    refine ⟨fun hc1 => ?_, fun hc1 => ?_⟩
    · have hii1 : i1 < x0.length := by have := of_decide_eq_true hc1; omega
      replace hR := loopN_step hR hii1
      refine rg ⟨by (intros; omega), by ( intros; simp only [inR]; omega), by ( intros; simp only [inR]; omega), by ( intros; simp only [inR]; omega), by (intros; omega), by (intros; omega), by (intros; omega), by (intros; omega), trivial⟩ ?_
      refine rg ⟨by ( intros; simp only [inR]; omega), trivial⟩ ?_
      refine rg ⟨by ( intros; simp only [inR]; omega), trivial⟩ ?_
      exact hK1 ((v1.1.set i1 (Union.mk v1.2 (v1.2 + 1) ((v1.2 + 1) + 1) (((v1.2 + 1) + 1) + 1))), (((v1.2 + 1) + 1) + 1) + 1) hii1 (by (simp only [List.length_set]; omega)) hR
    · obtain rfl : i1 = x0.length := by have := of_decide_eq_false hc1; omega
      replace hR := loopN_end hR (Nat.lt_irrefl _)
      refine rg trivial ?_
      refine og (by (intros; omega)) ?_
      exact congrArg (C65 x0 x1) hR
  exact FnM.go 41 Try.func65 (by kernel_rfl) (by kernel_rfl) (A65 x0 x1) (by kernel_rfl) (aux _ rfl)
def k65 (d : Nat) (ids : List Nat) (x0 : List Union) (x1 : Int) : Cl := (hresM d ids (C65 x0 x1 (markUnionS x0 x1)), k2 (ok_laws_markUnionS x0 x1))
def C67 (R : Int) : LV × List (Nat × BC) := (.int .i64 R, [])
def heldIntS (x0 : List Int) (x1 : Int) : Int := loopN (fun i1 (v1 : Int) next => bif (!decide ((x0.getD i1 default) = v1)) then (-1) else (next (v1 + 1))) (fun (v1 : Int) => v1) x0.length 0 x1
def D67b1 (x0 : List Int) (x1 : Int) (i1 : Nat) (v1 : Int) : Dl := ⟨[(5, .int .i64 ((i1 : Nat) : Int)), (1, .int .i64 v1)], []⟩
def A67b1 (x0 : List Int) (x1 : Int) (i1 : Nat) (v1 : Int) : Ann := r0 1 [0, 1, 4, 5, 9] [] (cn (decide (((i1 : Nat) : Int) < ((x0.length : Nat) : Int))) (r1 1 [0, 1, 4, 5, 17] [] [pf (0 ≤ (((i1 : Nat) : Int) : Int) ∧ (((i1 : Nat) : Int) : Int) < ((x0.length : Nat) : Int))] [0] (cn (!decide ((x0.getD i1 default) = v1)) (r0 1 [0, 1, 4, 5] [] (rt [] (C67 (-1)))) (r1 1 [0, 1, 4, 5] [] [pf (inR .i64 (v1 + 1))] [0] (r1 1 [0, 1, 4, 5] [] [pf (inR .i64 (((i1 : Nat) : Int) + 1))] [0] (.next 0 [] (D67b1 x0 x1 (i1 + 1) (v1 + 1))))))) (r0 1 [4] [] (rt [] (C67 v1))))
def A67 (x0 : List Int) (x1 : Int) : Ann := r0 1 [0, 1, 4] [] (r0 1 [0, 1, 4, 5] [] (lp (D67b1 x0 x1) [] [] [] (D67b1 x0 x1 0 x1) (A67b1 x0 x1)))
theorem ok_laws_heldIntS (x0 : List Int) (x1 : Int) (hx : x0.length ≤ 1048576) (hk : 0 ≤ x1 ∧ x1 ≤ 30000000) : FnT Try.prog 67 [.ro false 1 x0.length (rowOf (cInt .i64) x0), .int .i64 x1] (C67 (heldIntS x0 x1)) := by
  have aux : ∀ R, heldIntS x0 x1 = R → slim (C67 R) (A67 x0 x1) [] := by
    intro R hR
    refine rg trivial ?_
    refine rg trivial ?_
    revert hR; refine lN (fun i v => v = x1 + i) (by (intros; omega)) rfl fun i1 v1 F1 hn1 hI1 hR hK1 => ?_
    refine rg trivial ?_
    refine ⟨fun hc1 => ?_, fun hc1 => ?_⟩
    · have hii1 : i1 < x0.length := by have := of_decide_eq_true hc1; omega
      replace hR := loopN_step hR hii1
      refine rg ⟨by (intros; omega), trivial⟩ ?_
      revert hR; refine cd (fun hc2 hR => ?_) fun hc2 hR => ?_
      ·
        refine rg trivial ?_
        exact congrArg C67 hR
      ·
        refine rg ⟨by ( intros; simp only [inR]; omega), trivial⟩ ?_
        refine rg ⟨by ( intros; simp only [inR]; omega), trivial⟩ ?_
        exact hK1 (v1 + 1) hii1 (by (intros; omega)) hR
    · obtain rfl : i1 = x0.length := by have := of_decide_eq_false hc1; omega
      replace hR := loopN_end hR (Nat.lt_irrefl _)
      refine rg trivial ?_
      exact congrArg C67 hR
  exact Fn.go 21 Try.func67 (by kernel_rfl) (by kernel_rfl) (by simp [C67, Frs, FrsL]) (A67 x0 x1) (by kernel_rfl) (aux _ rfl)
def k67 (x0 : List Int) (x1 : Int) : Cl := (hres (C67 (heldIntS x0 x1)), k2 (ok_laws_heldIntS x0 x1))
end Go.Proofs.Ytkkijpibajigfaa
