import Derived.Test.YtmefknjcgdbceaaVS3
set_option maxHeartbeats 4000000
set_option linter.unusedSimpArgs false
set_option linter.unusedVariables false
namespace Go.Proofs.Ytmefknjcgdbceaa
open Go Go.Lite Go.Proofs
def C87E (x0 : SrtE) (x1 : Int) (x2 : Int) (R : (List Int)) : LV × List (Nat × BC) := (.tup [], [(900000, .arr 1 R.length (rowOf (cInt .i64) R)), (900001, .var [.ro false 6 x0.c0.people.length (rowOf (cPerson false) x0.c0.people), .ro false 4 x0.c0.unions.length (rowOf (cUnion false) x0.c0.unions)]), (900002, .var [.own 900000])])
def reverseRangeE (x0 : SrtE) (x1 : Int) (x2 : Int) : (List Int) := loopW (fun (v1 : Int × Int × (List Int)) next => bif (decide (v1.1 < v1.2.1)) then (next (v1.1 + 1, v1.2.1 - 1, (swp v1.2.2 v1.1 v1.2.1))) else v1.2.2) ((x2 - 1 - (x1) + 1).toNat + 1) (x1, x2 - 1, x0.l)
def D87Eb1 (x0 : SrtE) (x1 : Int) (x2 : Int) (v1 : Int × Int × (List Int)) : Dl := ⟨[(6, .int .i64 v1.1), (7, .int .i64 v1.2.1)], [(900000, .arr 1 v1.2.2.length (rowOf (cInt .i64) v1.2.2))]⟩
def A87Eb1 (x0 : SrtE) (x1 : Int) (x2 : Int) (v1 : Int × Int × (List Int)) : Ann := r0 1 [3, 6, 7, 13] [3, 900000, 900001, 900002] (cn (decide (v1.1 < v1.2.1)) (.reg 2 [] [(4, kswE 504 [900000] v1.2.2 v1.1 v1.2.1)] [3, 6, 7] [3, 900000, 900001, 900002] [] [pf (inR .i64 (v1.1 + 1))] [] [4, 0] (r1 1 [3, 6, 7] [3, 900000, 900001, 900002] [pf (inR .i64 (v1.2.1 - 1))] [0] (.next 0 [(900000, some 900000)] (D87Eb1 x0 x1 x2 (v1.1 + 1, v1.2.1 - 1, (swp v1.2.2 v1.1 v1.2.1)))))) (rt [(900000, some 900000), (900001, some 900001), (900002, some 900002)] (C87E x0 x1 x2 v1.2.2)))
def A87E (x0 : SrtE) (x1 : Int) (x2 : Int) : Ann := r1 3 [3, 6, 7] [3, 900000, 900001, 900002] [pf (inR .i64 (x2 - 1))] [0] (.loop (Int × Int × (List Int)) (D87Eb1 x0 x1 x2) [] [] [(900000, some 900000)] (D87Eb1 x0 x1 x2 (x1, x2 - 1, x0.l)) (A87Eb1 x0 x1 x2))
theorem reverseRangeE_sw (x0 : SrtE) (x1 x2 : Int) (h : 0 ≤ x1 ∧ x1 ≤ x2) : Sw x1 x2 x0.l (reverseRangeE x0 x1 x2) := by
  unfold reverseRangeE
  refine loopW_to (fun v => x1 ≤ v.1 ∧ v.2.1 < x2 ∧ Sw x1 x2 x0.l v.2.2) (fun v => (v.2.1 - v.1 + 1).toNat) (fun l => Sw x1 x2 x0.l l) (fun v next hv hn => ?_) _ _ (by dsimp only; omega) ⟨by simp, by dsimp only; omega, .refl⟩
  cases hc : decide (v.1 < v.2.1) with
  | false => exact hv.2.2
  | true =>
    have hc := of_decide_eq_true hc
    exact hn _ ⟨by dsimp only; omega, by dsimp only; omega, .step hv.2.2 _ _ (by omega) (by omega)⟩ (by dsimp only; omega)

theorem ok_sort_reverseRange_func_E (x0 : SrtE) (x1 : Int) (x2 : Int) (hx : x0.l.length ≤ 255) (hok : OkE x0) (hab : 0 ≤ x1 ∧ x1 ≤ x2 ∧ x2 ≤ x0.l.length) : FnMT Try.prog 87 [.agg [.clo 62 [.vp 900001 0, .vp 900002 0], .clo 76 [.own 900000, .k Try.prog.globals.size 3]], .int .i64 x1, .int .i64 x2] [.arr 1 x0.l.length (rowOf (cInt .i64) x0.l), .var [.ro false 6 x0.c0.people.length (rowOf (cPerson false) x0.c0.people), .ro false 4 x0.c0.unions.length (rowOf (cUnion false) x0.c0.unions)], .var [.own 900000]] (C87E x0 x1 x2 (reverseRangeE x0 x1 x2)) := by
  have aux : ∀ R, reverseRangeE x0 x1 x2 = R → slim (C87E x0 x1 x2 R) (A87E x0 x1 x2) [] := by
    intro R hR
    refine rg ⟨by ( intros; simp only [inR]; omega), trivial⟩ ?_
    revert hR; refine lW (fun v => (x1 ≤ v.1 ∧ v.1 ≤ v.2.1 + 1 ∧ v.2.1 < x2) ∧ (Sw x1 x2 x0.l v.2.2 ∧ v.2.2.length = x0.l.length)) (fun v => (v.2.1 - (v.1) + 1).toNat) (by (((try clear hR); (try clear hK1); intros; (try simp only [w1, w2, w3, w4, w5, w6, swp_len, inR, IntKind.bits] at *)); refine ⟨by omega, ?_, trivial⟩; ((repeat first | refine Sw.step ?_ _ _ (by omega) (by omega)) <;> first | exact hI1.2.1 | exact Sw.refl | exact hI1.2.1.mono (by omega) (by omega)))) (Nat.lt_succ_self _) rfl fun m1 v1 F1 hI1 hM1 hR hK1 => ?_
    refine rg trivial ?_
    revert hR; refine cd (fun hc1 hR => ?_) fun hc1 hR => ?_
    ·
      refine rg ⟨by ( intros; simp only [inR]; omega), ⟨by (((try clear hR); (try clear hK1); intros; (try simp only [w1, w2, w3, w4, w5, w6, swp_len, inR, IntKind.bits] at *)); omega), by (((try clear hR); (try clear hK1); intros; (try simp only [w1, w2, w3, w4, w5, w6, swp_len, inR, IntKind.bits] at *)); omega)⟩, trivial⟩ ?_
      refine rg ⟨by ( intros; simp only [inR]; omega), trivial⟩ ?_
      exact hK1 (v1.1 + 1, v1.2.1 - 1, (swp v1.2.2 v1.1 v1.2.1)) (by (((try clear hR); (try clear hK1); intros; (try simp only [w1, w2, w3, w4, w5, w6, swp_len, inR, IntKind.bits] at *)); (repeat' apply And.intro) <;> first | omega | ((repeat first | refine Sw.step ?_ _ _ (by omega) (by omega)) <;> first | exact hI1.2.1 | exact Sw.refl | exact hI1.2.1.mono (by omega) (by omega)))) (by (((try clear hR); (try clear hK1); intros; (try simp only [w1, w2, w3, w4, w5, w6, swp_len, inR, IntKind.bits] at *)); omega)) hR
    ·
      exact congrArg (C87E x0 x1 x2) hR
  exact FnM.go 23 Try.func87 (by kernel_rfl) (by kernel_rfl) (A87E x0 x1 x2) (by kernel_rfl) (aux _ rfl)
def k87E (d : Nat) (ids : List Nat) (x0 : SrtE) (x1 : Int) (x2 : Int) : Cl := (hresM d ids (C87E x0 x1 x2 (reverseRangeE x0 x1 x2)), k3 (ok_sort_reverseRange_func_E x0 x1 x2))
def C88E (x0 : SrtE) (x1 : Int) (x2 : Int) (R : Bool × (List Int)) : LV × List (Nat × BC) := (.bool R.1, [(900000, .arr 1 R.2.length (rowOf (cInt .i64) R.2)), (900001, .var [.ro false 6 x0.c0.people.length (rowOf (cPerson false) x0.c0.people), .ro false 4 x0.c0.unions.length (rowOf (cUnion false) x0.c0.unions)]), (900002, .var [.own 900000])])
def partInsE (x0 : SrtE) (x1 : Int) (x2 : Int) : Bool × (List Int) := loopN (fun i1 (v1 : Int × (List Int)) nx1 => loopW (fun (v2 : Int) next => bif ((decide (v2 < x2)) && (!(chosenLess v2 (v2 - 1) x0.c0 v1.2))) then (next (v2 + 1)) else (bif (decide (v2 = x2)) then (true, v1.2) else (bif (decide ((x2 - x1) < 50)) then (false, v1.2) else (bif (decide (2 ≤ (v2 - x1))) then (loopW (fun (v3 : Int × (List Int)) next => bif (decide (1 ≤ v3.1)) then (bif (!(chosenLess v3.1 (v3.1 - 1) x0.c0 v3.2)) then (bif (decide (2 ≤ (x2 - v2))) then (loopW (fun (v4 : Int × (List Int)) next => bif (decide (v4.1 < x2)) then (bif (!(chosenLess v4.1 (v4.1 - 1) x0.c0 v4.2)) then (nx1 (v2, v4.2)) else (next (v4.1 + 1, (swp v4.2 v4.1 (v4.1 - 1))))) else (nx1 (v2, v4.2))) (0 + 1) (v2 + 1, v3.2)) else (nx1 (v2, v3.2))) else (next (v3.1 - 1, (swp v3.2 v3.1 (v3.1 - 1))))) else (bif (decide (2 ≤ (x2 - v2))) then (loopW (fun (v5 : Int × (List Int)) next => bif (decide (v5.1 < x2)) then (bif (!(chosenLess v5.1 (v5.1 - 1) x0.c0 v5.2)) then (nx1 (v2, v5.2)) else (next (v5.1 + 1, (swp v5.2 v5.1 (v5.1 - 1))))) else (nx1 (v2, v5.2))) (0 + 1) (v2 + 1, v3.2)) else (nx1 (v2, v3.2)))) (0 + 1) (v2 - 1, (swp v1.2 v2 (v2 - 1)))) else (bif (decide (2 ≤ (x2 - v2))) then (loopW (fun (v6 : Int × (List Int)) next => bif (decide (v6.1 < x2)) then (bif (!(chosenLess v6.1 (v6.1 - 1) x0.c0 v6.2)) then (nx1 (v2, v6.2)) else (next (v6.1 + 1, (swp v6.2 v6.1 (v6.1 - 1))))) else (nx1 (v2, v6.2))) (0 + 1) (v2 + 1, (swp v1.2 v2 (v2 - 1)))) else (nx1 (v2, (swp v1.2 v2 (v2 - 1))))))))) ((x2 - (v1.1)).toNat + 1) v1.1) (fun (v1 : Int × (List Int)) => (false, v1.2)) 5 0 (x1 + 1, x0.l)
def D88Eb1 (x0 : SrtE) (x1 : Int) (x2 : Int) (i1 : Nat) (v1 : Int × (List Int)) : Dl := ⟨[(8, .int .i64 ((i1 : Nat) : Int)), (7, .int .i64 v1.1)], [(900000, .arr 1 v1.2.length (rowOf (cInt .i64) v1.2))]⟩
def D88Eb2 (x0 : SrtE) (x1 : Int) (x2 : Int) (i1 : Nat) (v1 : Int × (List Int)) (v2 : Int) : Dl := ⟨[(7, .int .i64 v2)], []⟩
def D88Eb3 (x0 : SrtE) (x1 : Int) (x2 : Int) (i1 : Nat) (v1 : Int × (List Int)) (v2 : Int) (v3 : Int × (List Int)) : Dl := ⟨[(9, .int .i64 v3.1)], [(900000, .arr 1 v3.2.length (rowOf (cInt .i64) v3.2))]⟩
def D88Eb4 (x0 : SrtE) (x1 : Int) (x2 : Int) (i1 : Nat) (v1 : Int × (List Int)) (v2 : Int) (v3 : Int × (List Int)) (v4 : Int × (List Int)) : Dl := ⟨[(10, .int .i64 v4.1)], [(900000, .arr 1 v4.2.length (rowOf (cInt .i64) v4.2))]⟩
def A88Eb4 (x0 : SrtE) (x1 : Int) (x2 : Int) (i1 : Nat) (v1 : Int × (List Int)) (v2 : Int) (v3 : Int × (List Int)) (v4 : Int × (List Int)) : Ann := r0 1 [1, 2, 3, 6, 7, 8, 10, 75] [3, 900000, 900001, 900002] (cn (decide (v4.1 < x2)) (.reg 1 [] [(5, k62 v4.1 (v4.1 - 1) x0.c0 v4.2)] [1, 2, 3, 6, 7, 8, 10, 84] [3, 900000, 900001, 900002] [] [pf (inR .i64 (v4.1 - 1))] [] [0, 4] (cn (!(chosenLess v4.1 (v4.1 - 1) x0.c0 v4.2)) (r1 1 [1, 2, 3, 6, 7, 8] [3, 900000, 900001, 900002] [pf (inR .i64 (((i1 : Nat) : Int) + 1))] [0] (.next 3 [(900000, some 900000)] (D88Eb1 x0 x1 x2 (i1 + 1) (v2, v4.2)))) (.reg 1 [] [(5, kswE 504 [900000] v4.2 v4.1 (v4.1 - 1))] [1, 2, 3, 6, 7, 8, 10] [3, 900000, 900001, 900002] [] [pf (inR .i64 (v4.1 - 1))] [] [0, 4] (r1 1 [1, 2, 3, 6, 7, 8, 10] [3, 900000, 900001, 900002] [pf (inR .i64 (v4.1 + 1))] [0] (.next 0 [(900000, some 900000)] (D88Eb4 x0 x1 x2 i1 v1 v2 v3 (v4.1 + 1, (swp v4.2 v4.1 (v4.1 - 1))))))))) (r1 1 [1, 2, 3, 6, 7, 8] [3, 900000, 900001, 900002] [pf (inR .i64 (((i1 : Nat) : Int) + 1))] [0] (.next 3 [(900000, some 900000)] (D88Eb1 x0 x1 x2 (i1 + 1) (v2, v4.2)))))
def D88Eb5 (x0 : SrtE) (x1 : Int) (x2 : Int) (i1 : Nat) (v1 : Int × (List Int)) (v2 : Int) (v3 : Int × (List Int)) (v5 : Int × (List Int)) : Dl := ⟨[(10, .int .i64 v5.1)], [(900000, .arr 1 v5.2.length (rowOf (cInt .i64) v5.2))]⟩
def A88Eb5 (x0 : SrtE) (x1 : Int) (x2 : Int) (i1 : Nat) (v1 : Int × (List Int)) (v2 : Int) (v3 : Int × (List Int)) (v5 : Int × (List Int)) : Ann := r0 1 [1, 2, 3, 6, 7, 8, 10, 75] [3, 900000, 900001, 900002] (cn (decide (v5.1 < x2)) (.reg 1 [] [(5, k62 v5.1 (v5.1 - 1) x0.c0 v5.2)] [1, 2, 3, 6, 7, 8, 10, 84] [3, 900000, 900001, 900002] [] [pf (inR .i64 (v5.1 - 1))] [] [0, 4] (cn (!(chosenLess v5.1 (v5.1 - 1) x0.c0 v5.2)) (r1 1 [1, 2, 3, 6, 7, 8] [3, 900000, 900001, 900002] [pf (inR .i64 (((i1 : Nat) : Int) + 1))] [0] (.next 3 [(900000, some 900000)] (D88Eb1 x0 x1 x2 (i1 + 1) (v2, v5.2)))) (.reg 1 [] [(5, kswE 504 [900000] v5.2 v5.1 (v5.1 - 1))] [1, 2, 3, 6, 7, 8, 10] [3, 900000, 900001, 900002] [] [pf (inR .i64 (v5.1 - 1))] [] [0, 4] (r1 1 [1, 2, 3, 6, 7, 8, 10] [3, 900000, 900001, 900002] [pf (inR .i64 (v5.1 + 1))] [0] (.next 0 [(900000, some 900000)] (D88Eb5 x0 x1 x2 i1 v1 v2 v3 (v5.1 + 1, (swp v5.2 v5.1 (v5.1 - 1))))))))) (r1 1 [1, 2, 3, 6, 7, 8] [3, 900000, 900001, 900002] [pf (inR .i64 (((i1 : Nat) : Int) + 1))] [0] (.next 3 [(900000, some 900000)] (D88Eb1 x0 x1 x2 (i1 + 1) (v2, v5.2)))))
def A88Eb3 (x0 : SrtE) (x1 : Int) (x2 : Int) (i1 : Nat) (v1 : Int × (List Int)) (v2 : Int) (v3 : Int × (List Int)) : Ann := r0 1 [1, 2, 3, 6, 7, 8, 9, 51] [3, 900000, 900001, 900002] (cn (decide (1 ≤ v3.1)) (.reg 1 [] [(5, k62 v3.1 (v3.1 - 1) x0.c0 v3.2)] [1, 2, 3, 6, 7, 8, 9, 60] [3, 900000, 900001, 900002] [] [pf (inR .i64 (v3.1 - 1))] [] [0, 4] (cn (!(chosenLess v3.1 (v3.1 - 1) x0.c0 v3.2)) (r1 1 [1, 2, 3, 6, 7, 8, 70] [3, 900000, 900001, 900002] [pf (inR .i64 (x2 - v2))] [0] (cn (decide (2 ≤ (x2 - v2))) (r1 1 [1, 2, 3, 6, 7, 8, 10] [3, 900000, 900001, 900002] [pf (inR .i64 (v2 + 1))] [0] (.loop (Int × (List Int)) (D88Eb4 x0 x1 x2 i1 v1 v2 v3) [] [] [(900000, some 900000)] (D88Eb4 x0 x1 x2 i1 v1 v2 v3 (v2 + 1, v3.2)) (A88Eb4 x0 x1 x2 i1 v1 v2 v3))) (r1 1 [1, 2, 3, 6, 7, 8] [3, 900000, 900001, 900002] [pf (inR .i64 (((i1 : Nat) : Int) + 1))] [0] (.next 2 [(900000, some 900000)] (D88Eb1 x0 x1 x2 (i1 + 1) (v2, v3.2)))))) (.reg 1 [] [(5, kswE 504 [900000] v3.2 v3.1 (v3.1 - 1))] [1, 2, 3, 6, 7, 8, 9] [3, 900000, 900001, 900002] [] [pf (inR .i64 (v3.1 - 1))] [] [0, 4] (r1 1 [1, 2, 3, 6, 7, 8, 9] [3, 900000, 900001, 900002] [pf (inR .i64 (v3.1 - 1))] [0] (.next 0 [(900000, some 900000)] (D88Eb3 x0 x1 x2 i1 v1 v2 (v3.1 - 1, (swp v3.2 v3.1 (v3.1 - 1))))))))) (r1 1 [1, 2, 3, 6, 7, 8, 70] [3, 900000, 900001, 900002] [pf (inR .i64 (x2 - v2))] [0] (cn (decide (2 ≤ (x2 - v2))) (r1 1 [1, 2, 3, 6, 7, 8, 10] [3, 900000, 900001, 900002] [pf (inR .i64 (v2 + 1))] [0] (.loop (Int × (List Int)) (D88Eb5 x0 x1 x2 i1 v1 v2 v3) [] [] [(900000, some 900000)] (D88Eb5 x0 x1 x2 i1 v1 v2 v3 (v2 + 1, v3.2)) (A88Eb5 x0 x1 x2 i1 v1 v2 v3))) (r1 1 [1, 2, 3, 6, 7, 8] [3, 900000, 900001, 900002] [pf (inR .i64 (((i1 : Nat) : Int) + 1))] [0] (.next 2 [(900000, some 900000)] (D88Eb1 x0 x1 x2 (i1 + 1) (v2, v3.2)))))))
def D88Eb6 (x0 : SrtE) (x1 : Int) (x2 : Int) (i1 : Nat) (v1 : Int × (List Int)) (v2 : Int) (v6 : Int × (List Int)) : Dl := ⟨[(10, .int .i64 v6.1)], [(900000, .arr 1 v6.2.length (rowOf (cInt .i64) v6.2))]⟩
def A88Eb6 (x0 : SrtE) (x1 : Int) (x2 : Int) (i1 : Nat) (v1 : Int × (List Int)) (v2 : Int) (v6 : Int × (List Int)) : Ann := r0 1 [1, 2, 3, 6, 7, 8, 10, 75] [3, 900000, 900001, 900002] (cn (decide (v6.1 < x2)) (.reg 1 [] [(5, k62 v6.1 (v6.1 - 1) x0.c0 v6.2)] [1, 2, 3, 6, 7, 8, 10, 84] [3, 900000, 900001, 900002] [] [pf (inR .i64 (v6.1 - 1))] [] [0, 4] (cn (!(chosenLess v6.1 (v6.1 - 1) x0.c0 v6.2)) (r1 1 [1, 2, 3, 6, 7, 8] [3, 900000, 900001, 900002] [pf (inR .i64 (((i1 : Nat) : Int) + 1))] [0] (.next 2 [(900000, some 900000)] (D88Eb1 x0 x1 x2 (i1 + 1) (v2, v6.2)))) (.reg 1 [] [(5, kswE 504 [900000] v6.2 v6.1 (v6.1 - 1))] [1, 2, 3, 6, 7, 8, 10] [3, 900000, 900001, 900002] [] [pf (inR .i64 (v6.1 - 1))] [] [0, 4] (r1 1 [1, 2, 3, 6, 7, 8, 10] [3, 900000, 900001, 900002] [pf (inR .i64 (v6.1 + 1))] [0] (.next 0 [(900000, some 900000)] (D88Eb6 x0 x1 x2 i1 v1 v2 (v6.1 + 1, (swp v6.2 v6.1 (v6.1 - 1))))))))) (r1 1 [1, 2, 3, 6, 7, 8] [3, 900000, 900001, 900002] [pf (inR .i64 (((i1 : Nat) : Int) + 1))] [0] (.next 2 [(900000, some 900000)] (D88Eb1 x0 x1 x2 (i1 + 1) (v2, v6.2)))))
def A88Eb2 (x0 : SrtE) (x1 : Int) (x2 : Int) (i1 : Nat) (v1 : Int × (List Int)) (v2 : Int) : Ann := .reg 1 [] [(9, cg (decide (v2 < x2)) (k62 v2 (v2 - 1) x0.c0 v1.2))] [1, 2, 3, 6, 7, 8, 28] [3, 900000, 900001, 900002] [decide (v2 < x2)] [gt (decide (v2 < x2)) (pf (inR .i64 (v2 - 1)))] [] [1, 1, 0, 1, 1, 1, 4, 1, 1] (cn ((decide (v2 < x2)) && (!(chosenLess v2 (v2 - 1) x0.c0 v1.2))) (r1 1 [1, 2, 3, 6, 7, 8] [3, 900000, 900001, 900002] [pf (inR .i64 (v2 + 1))] [0] (.next 0 [] (D88Eb2 x0 x1 x2 i1 v1 (v2 + 1)))) (r0 1 [1, 2, 3, 6, 7, 8, 33] [3, 900000, 900001, 900002] (cn (decide (v2 = x2)) (r0 1 [1, 2, 3, 6, 7, 8] [3, 900000, 900001, 900002] (rt [(900000, some 900000), (900001, some 900001), (900002, some 900002)] (C88E x0 x1 x2 (true, v1.2)))) (r1 1 [1, 2, 3, 6, 7, 8, 37] [3, 900000, 900001, 900002] [pf (inR .i64 (x2 - x1))] [0] (cn (decide ((x2 - x1) < 50)) (r0 1 [1, 2, 3, 6, 7, 8] [3, 900000, 900001, 900002] (rt [(900000, some 900000), (900001, some 900001), (900002, some 900002)] (C88E x0 x1 x2 (false, v1.2)))) (.reg 1 [] [(5, kswE 504 [900000] v1.2 v2 (v2 - 1))] [1, 2, 3, 6, 7, 8] [3, 900000, 900001, 900002] [] [pf (inR .i64 (v2 - 1))] [] [0, 4] (r1 1 [1, 2, 3, 6, 7, 8, 47] [3, 900000, 900001, 900002] [pf (inR .i64 (v2 - x1))] [0] (cn (decide (2 ≤ (v2 - x1))) (r1 1 [1, 2, 3, 6, 7, 8, 9] [3, 900000, 900001, 900002] [pf (inR .i64 (v2 - 1))] [0] (.loop (Int × (List Int)) (D88Eb3 x0 x1 x2 i1 v1 v2) [] [] [(900000, some 900000)] (D88Eb3 x0 x1 x2 i1 v1 v2 (v2 - 1, (swp v1.2 v2 (v2 - 1)))) (A88Eb3 x0 x1 x2 i1 v1 v2))) (r1 1 [1, 2, 3, 6, 7, 8, 70] [3, 900000, 900001, 900002] [pf (inR .i64 (x2 - v2))] [0] (cn (decide (2 ≤ (x2 - v2))) (r1 1 [1, 2, 3, 6, 7, 8, 10] [3, 900000, 900001, 900002] [pf (inR .i64 (v2 + 1))] [0] (.loop (Int × (List Int)) (D88Eb6 x0 x1 x2 i1 v1 v2) [] [] [(900000, some 900000)] (D88Eb6 x0 x1 x2 i1 v1 v2 (v2 + 1, (swp v1.2 v2 (v2 - 1)))) (A88Eb6 x0 x1 x2 i1 v1 v2))) (r1 1 [1, 2, 3, 6, 7, 8] [3, 900000, 900001, 900002] [pf (inR .i64 (((i1 : Nat) : Int) + 1))] [0] (.next 1 [(900000, some 900000)] (D88Eb1 x0 x1 x2 (i1 + 1) (v2, (swp v1.2 v2 (v2 - 1))))))))))))))))
def A88Eb1 (x0 : SrtE) (x1 : Int) (x2 : Int) (i1 : Nat) (v1 : Int × (List Int)) : Ann := r0 1 [1, 2, 3, 6, 7, 8, 14] [3, 900000, 900001, 900002] (cn (decide (((i1 : Nat) : Int) < 5)) (.loop Int (D88Eb2 x0 x1 x2 i1 v1) [14] [] [] (D88Eb2 x0 x1 x2 i1 v1 v1.1) (A88Eb2 x0 x1 x2 i1 v1)) (r0 1 [6] [900000, 900001, 900002] (rt [(900000, some 900000), (900001, some 900001), (900002, some 900002)] (C88E x0 x1 x2 (false, v1.2)))))
def A88E (x0 : SrtE) (x1 : Int) (x2 : Int) : Ann := r1 2 [1, 2, 3, 6, 7] [3, 900000, 900001, 900002] [pf (inR .i64 (x1 + 1))] [0] (r0 1 [1, 2, 3, 6, 7, 8] [3, 900000, 900001, 900002] (lp (D88Eb1 x0 x1 x2) [] [] [(900000, some 900000)] (D88Eb1 x0 x1 x2 0 (x1 + 1, x0.l)) (A88Eb1 x0 x1 x2)))
/-- A range of less than 50 is only looked at. -/
theorem partInsE_keep (x0 : SrtE) (x1 x2 : Int) (h : x2 - x1 < 50) : (partInsE x0 x1 x2).2 = x0.l := by
  unfold partInsE
  refine loopN_to (fun i (v : Int × List Int) => v.2 = x0.l) (fun (r : Bool × List Int) => r.2 = x0.l) rfl (fun i v next hi hv hn => ?_) (fun s hs => hs)
  refine loopW_to (fun _ => True) (fun (w : Int) => (x2 - w).toNat) (fun (r : Bool × List Int) => r.2 = x0.l) (fun w next2 hw hn2 => ?_) _ _ (by omega) trivial
  cases hd : decide (w < x2) && !(chosenLess w (w - 1) x0.c0 v.2) with
  | true =>
    simp only [Bool.and_eq_true, decide_eq_true_eq] at hd
    exact hn2 _ trivial (by omega)
  | false =>
    cases decide (w = x2) with
    | true => exact hv
    | false => rw [decide_eq_true h]; exact hv
theorem partInsE_sw (x0 : SrtE) (x1 x2 : Int) (h : x2 - x1 < 50) : Sw x1 x2 x0.l (partInsE x0 x1 x2).2 := by
  rw [partInsE_keep x0 x1 x2 h]; exact .refl

theorem ok_sort_partialInsertionSort_func_E (x0 : SrtE) (x1 : Int) (x2 : Int) (hx : x0.l.length ≤ 255) (hok : OkE x0) (hab : 0 ≤ x1 ∧ x1 ≤ x2 ∧ x2 ≤ x0.l.length ∧ x1 < x2 ∧ x2 - x1 < 50) : FnMT Try.prog 88 [.agg [.clo 62 [.vp 900001 0, .vp 900002 0], .clo 76 [.own 900000, .k Try.prog.globals.size 3]], .int .i64 x1, .int .i64 x2] [.arr 1 x0.l.length (rowOf (cInt .i64) x0.l), .var [.ro false 6 x0.c0.people.length (rowOf (cPerson false) x0.c0.people), .ro false 4 x0.c0.unions.length (rowOf (cUnion false) x0.c0.unions)], .var [.own 900000]] (C88E x0 x1 x2 (partInsE x0 x1 x2)) := by
  have aux : ∀ R, partInsE x0 x1 x2 = R → slim (C88E x0 x1 x2 R) (A88E x0 x1 x2) [] := by
    intro R hR
    refine rg ⟨by ( intros; simp only [inR]; omega), trivial⟩ ?_
    refine rg trivial ?_
    revert hR; refine lN (fun i v => (x1 + 1 ≤ v.1 ∧ v.1 ≤ x2) ∧ (Sw x1 x2 x0.l v.2 ∧ v.2.length = x0.l.length)) (by (((try clear hR); (try clear hK1); (try clear hK2); (try clear hK3); (try clear hK4); (try clear hK5); intros; (try simp only [w1, w2, w3, w4, w5, w6, swp_len, inR, IntKind.bits] at *)); refine ⟨by omega, ?_, trivial⟩; ((repeat first | refine Sw.step ?_ _ _ (by omega) (by omega)) <;> first | exact hI1.2.1 | exact Sw.refl | exact hI1.2.1.mono (by omega) (by omega)))) rfl fun i1 v1 F1 hn1 hI1 hR hK1 => ?_
    refine rg trivial ?_
    refine ⟨fun hc1 => ?_, fun hc1 => ?_⟩
    · have hii1 : i1 < 5 := by have := of_decide_eq_true hc1; omega
      replace hR := loopN_step hR hii1
      revert hR; refine lW (fun v => x1 + 1 ≤ v ∧ v ≤ x2) (fun v => (x2 - (v)).toNat) (by (intros; omega)) (Nat.lt_succ_self _) rfl fun m2 v2 F2 hI2 hM2 hR hK2 => ?_
      refine rg ⟨by ( intros; simp only [inR]; omega), fun hg0 => ⟨by (((try clear hR); (try clear hK1); (try clear hK2); (try clear hK3); (try clear hK4); (try clear hK5); intros; (try simp only [w1, w2, w3, w4, w5, w6, swp_len, inR, IntKind.bits] at *)); omega), by (intros; omega), by (exact OkL.sw (a := 0) (b := x0.l.length) hok (by ((try clear hR); (try clear hK1); (try clear hK2); (try clear hK3); (try clear hK4); (try clear hK5); intros; (try simp only [w1, w2, w3, w4, w5, w6, swp_len, inR, IntKind.bits] at *)); ((repeat first | refine Sw.step ?_ _ _ (by omega) (by omega)) <;> first | exact hI1.2.1 | exact Sw.refl | exact hI1.2.1.mono (by omega) (by omega))) ⟨by omega, by omega⟩)⟩, trivial⟩ ?_
      revert hR; refine cd (fun hc2 hR => ?_) fun hc2 hR => ?_
      ·
        refine rg ⟨by ( intros; simp only [inR]; omega), trivial⟩ ?_
        exact hK2 (v2 + 1) (by (((try clear hR); (try clear hK1); (try clear hK2); (try clear hK3); (try clear hK4); (try clear hK5); intros; (try simp only [w1, w2, w3, w4, w5, w6, swp_len, inR, IntKind.bits] at *)); omega)) (by (((try clear hR); (try clear hK1); (try clear hK2); (try clear hK3); (try clear hK4); (try clear hK5); intros; (try simp only [w1, w2, w3, w4, w5, w6, swp_len, inR, IntKind.bits] at *)); omega)) hR
      ·
        refine rg trivial ?_
        revert hR; refine cd (fun hc3 hR => ?_) fun hc3 hR => ?_
        ·
          refine rg trivial ?_
          exact congrArg (C88E x0 x1 x2) hR
        ·
          refine rg ⟨by ( intros; simp only [inR]; omega), trivial⟩ ?_
          revert hR; refine cd (fun hc4 hR => ?_) fun hc4 hR => ?_
          ·
            refine rg trivial ?_
            exact congrArg (C88E x0 x1 x2) hR
          ·
            refine rg ⟨by ( intros; simp only [inR]; omega), ⟨by (((try clear hR); (try clear hK1); (try clear hK2); (try clear hK3); (try clear hK4); (try clear hK5); intros; (try simp only [w1, w2, w3, w4, w5, w6, swp_len, inR, IntKind.bits] at *)); omega), by (intros; omega)⟩, trivial⟩ ?_
            refine rg ⟨by ( intros; simp only [inR]; omega), trivial⟩ ?_
            revert hR; refine cd (fun hc5 hR => ?_) fun hc5 hR => ?_
            ·
              refine rg ⟨by ( intros; simp only [inR]; omega), trivial⟩ ?_
              revert hR; refine lW (fun v => True) (fun v => 0) (by trivial) (Nat.lt_succ_self _) rfl fun m3 v3 F3 hI3 hM3 hR hK3 => ?_
              refine rg trivial ?_
              revert hR; refine cd (fun hc6 hR => ?_) fun hc6 hR => ?_
              ·
                refine rg ⟨by (((try clear hR); (try clear hK1); (try clear hK2); (try clear hK3); (try clear hK4); (try clear hK5); intros; (try simp only [w1, w2, w3, w4, w5, w6, swp_len, inR, IntKind.bits] at *)); omega), ⟨by (((try clear hR); (try clear hK1); (try clear hK2); (try clear hK3); (try clear hK4); (try clear hK5); intros; (try simp only [w1, w2, w3, w4, w5, w6, swp_len, inR, IntKind.bits] at *)); omega), by (((try clear hR); (try clear hK1); (try clear hK2); (try clear hK3); (try clear hK4); (try clear hK5); intros; (try simp only [w1, w2, w3, w4, w5, w6, swp_len, inR, IntKind.bits] at *)); omega), by (((try clear hR); (try clear hK1); (try clear hK2); (try clear hK3); (try clear hK4); (try clear hK5); intros; (try simp only [w1, w2, w3, w4, w5, w6, swp_len, inR, IntKind.bits] at *)); omega)⟩, trivial⟩ ?_
                revert hR; refine cd (fun hc7 hR => ?_) fun hc7 hR => ?_
                ·
                  refine rg ⟨by ( intros; simp only [inR]; omega), trivial⟩ ?_
                  revert hR; refine cd (fun hc8 hR => ?_) fun hc8 hR => ?_
                  ·
                    refine rg ⟨by ( intros; simp only [inR]; omega), trivial⟩ ?_
                    revert hR; refine lW (fun v => True) (fun v => 0) (by trivial) (Nat.lt_succ_self _) rfl fun m4 v4 F4 hI4 hM4 hR hK4 => ?_
                    refine rg trivial ?_
                    revert hR; refine cd (fun hc9 hR => ?_) fun hc9 hR => ?_
                    ·
                      refine rg ⟨by (((try clear hR); (try clear hK1); (try clear hK2); (try clear hK3); (try clear hK4); (try clear hK5); intros; (try simp only [w1, w2, w3, w4, w5, w6, swp_len, inR, IntKind.bits] at *)); omega), ⟨by (((try clear hR); (try clear hK1); (try clear hK2); (try clear hK3); (try clear hK4); (try clear hK5); intros; (try simp only [w1, w2, w3, w4, w5, w6, swp_len, inR, IntKind.bits] at *)); omega), by (((try clear hR); (try clear hK1); (try clear hK2); (try clear hK3); (try clear hK4); (try clear hK5); intros; (try simp only [w1, w2, w3, w4, w5, w6, swp_len, inR, IntKind.bits] at *)); omega), by (((try clear hR); (try clear hK1); (try clear hK2); (try clear hK3); (try clear hK4); (try clear hK5); intros; (try simp only [w1, w2, w3, w4, w5, w6, swp_len, inR, IntKind.bits] at *)); omega)⟩, trivial⟩ ?_
                      revert hR; refine cd (fun hc10 hR => ?_) fun hc10 hR => ?_
                      ·
                        refine rg ⟨by ( intros; simp only [inR]; omega), trivial⟩ ?_
                        exact hK1 (v2, v4.2) hii1 (by (((try clear hR); (try clear hK1); (try clear hK2); (try clear hK3); (try clear hK4); (try clear hK5); intros; (try simp only [w1, w2, w3, w4, w5, w6, swp_len, inR, IntKind.bits] at *)); omega)) hR
                      ·
                        refine rg ⟨by (((try clear hR); (try clear hK1); (try clear hK2); (try clear hK3); (try clear hK4); (try clear hK5); intros; (try simp only [w1, w2, w3, w4, w5, w6, swp_len, inR, IntKind.bits] at *)); omega), ⟨by (((try clear hR); (try clear hK1); (try clear hK2); (try clear hK3); (try clear hK4); (try clear hK5); intros; (try simp only [w1, w2, w3, w4, w5, w6, swp_len, inR, IntKind.bits] at *)); omega), by (((try clear hR); (try clear hK1); (try clear hK2); (try clear hK3); (try clear hK4); (try clear hK5); intros; (try simp only [w1, w2, w3, w4, w5, w6, swp_len, inR, IntKind.bits] at *)); omega)⟩, trivial⟩ ?_
                        refine rg ⟨by (((try clear hR); (try clear hK1); (try clear hK2); (try clear hK3); (try clear hK4); (try clear hK5); intros; (try simp only [w1, w2, w3, w4, w5, w6, swp_len, inR, IntKind.bits] at *)); omega), trivial⟩ ?_
                        exact hK4 (v4.1 + 1, (swp v4.2 v4.1 (v4.1 - 1))) (by trivial) (by (((try clear hR); (try clear hK1); (try clear hK2); (try clear hK3); (try clear hK4); (try clear hK5); intros; (try simp only [w1, w2, w3, w4, w5, w6, swp_len, inR, IntKind.bits] at *)); omega)) hR
                    ·
                      refine rg ⟨by ( intros; simp only [inR]; omega), trivial⟩ ?_
                      exact hK1 (v2, v4.2) hii1 (by (((try clear hR); (try clear hK1); (try clear hK2); (try clear hK3); (try clear hK4); (try clear hK5); intros; (try simp only [w1, w2, w3, w4, w5, w6, swp_len, inR, IntKind.bits] at *)); omega)) hR
                  ·
                    refine rg ⟨by ( intros; simp only [inR]; omega), trivial⟩ ?_
                    exact hK1 (v2, v3.2) hii1 (by (((try clear hR); (try clear hK1); (try clear hK2); (try clear hK3); (try clear hK4); (try clear hK5); intros; (try simp only [w1, w2, w3, w4, w5, w6, swp_len, inR, IntKind.bits] at *)); omega)) hR
                ·
                  refine rg ⟨by (((try clear hR); (try clear hK1); (try clear hK2); (try clear hK3); (try clear hK4); (try clear hK5); intros; (try simp only [w1, w2, w3, w4, w5, w6, swp_len, inR, IntKind.bits] at *)); omega), ⟨by (((try clear hR); (try clear hK1); (try clear hK2); (try clear hK3); (try clear hK4); (try clear hK5); intros; (try simp only [w1, w2, w3, w4, w5, w6, swp_len, inR, IntKind.bits] at *)); omega), by (((try clear hR); (try clear hK1); (try clear hK2); (try clear hK3); (try clear hK4); (try clear hK5); intros; (try simp only [w1, w2, w3, w4, w5, w6, swp_len, inR, IntKind.bits] at *)); omega)⟩, trivial⟩ ?_
                  refine rg ⟨by (((try clear hR); (try clear hK1); (try clear hK2); (try clear hK3); (try clear hK4); (try clear hK5); intros; (try simp only [w1, w2, w3, w4, w5, w6, swp_len, inR, IntKind.bits] at *)); omega), trivial⟩ ?_
                  exact hK3 (v3.1 - 1, (swp v3.2 v3.1 (v3.1 - 1))) (by trivial) (by (((try clear hR); (try clear hK1); (try clear hK2); (try clear hK3); (try clear hK4); (try clear hK5); intros; (try simp only [w1, w2, w3, w4, w5, w6, swp_len, inR, IntKind.bits] at *)); omega)) hR
              ·
                refine rg ⟨by ( intros; simp only [inR]; omega), trivial⟩ ?_
                revert hR; refine cd (fun hc11 hR => ?_) fun hc11 hR => ?_
                ·
                  refine rg ⟨by ( intros; simp only [inR]; omega), trivial⟩ ?_
                  revert hR; refine lW (fun v => True) (fun v => 0) (by trivial) (Nat.lt_succ_self _) rfl fun m5 v5 F5 hI5 hM5 hR hK5 => ?_
                  refine rg trivial ?_
                  revert hR; refine cd (fun hc12 hR => ?_) fun hc12 hR => ?_
                  ·
                    refine rg ⟨by (((try clear hR); (try clear hK1); (try clear hK2); (try clear hK3); (try clear hK4); (try clear hK5); intros; (try simp only [w1, w2, w3, w4, w5, w6, swp_len, inR, IntKind.bits] at *)); omega), ⟨by (((try clear hR); (try clear hK1); (try clear hK2); (try clear hK3); (try clear hK4); (try clear hK5); intros; (try simp only [w1, w2, w3, w4, w5, w6, swp_len, inR, IntKind.bits] at *)); omega), by (((try clear hR); (try clear hK1); (try clear hK2); (try clear hK3); (try clear hK4); (try clear hK5); intros; (try simp only [w1, w2, w3, w4, w5, w6, swp_len, inR, IntKind.bits] at *)); omega), by (((try clear hR); (try clear hK1); (try clear hK2); (try clear hK3); (try clear hK4); (try clear hK5); intros; (try simp only [w1, w2, w3, w4, w5, w6, swp_len, inR, IntKind.bits] at *)); omega)⟩, trivial⟩ ?_
                    revert hR; refine cd (fun hc13 hR => ?_) fun hc13 hR => ?_
                    ·
                      refine rg ⟨by ( intros; simp only [inR]; omega), trivial⟩ ?_
                      exact hK1 (v2, v5.2) hii1 (by (((try clear hR); (try clear hK1); (try clear hK2); (try clear hK3); (try clear hK4); (try clear hK5); intros; (try simp only [w1, w2, w3, w4, w5, w6, swp_len, inR, IntKind.bits] at *)); omega)) hR
                    ·
                      refine rg ⟨by (((try clear hR); (try clear hK1); (try clear hK2); (try clear hK3); (try clear hK4); (try clear hK5); intros; (try simp only [w1, w2, w3, w4, w5, w6, swp_len, inR, IntKind.bits] at *)); omega), ⟨by (((try clear hR); (try clear hK1); (try clear hK2); (try clear hK3); (try clear hK4); (try clear hK5); intros; (try simp only [w1, w2, w3, w4, w5, w6, swp_len, inR, IntKind.bits] at *)); omega), by (((try clear hR); (try clear hK1); (try clear hK2); (try clear hK3); (try clear hK4); (try clear hK5); intros; (try simp only [w1, w2, w3, w4, w5, w6, swp_len, inR, IntKind.bits] at *)); omega)⟩, trivial⟩ ?_
                      refine rg ⟨by (((try clear hR); (try clear hK1); (try clear hK2); (try clear hK3); (try clear hK4); (try clear hK5); intros; (try simp only [w1, w2, w3, w4, w5, w6, swp_len, inR, IntKind.bits] at *)); omega), trivial⟩ ?_
                      exact hK5 (v5.1 + 1, (swp v5.2 v5.1 (v5.1 - 1))) (by trivial) (by (((try clear hR); (try clear hK1); (try clear hK2); (try clear hK3); (try clear hK4); (try clear hK5); intros; (try simp only [w1, w2, w3, w4, w5, w6, swp_len, inR, IntKind.bits] at *)); omega)) hR
                  ·
                    refine rg ⟨by ( intros; simp only [inR]; omega), trivial⟩ ?_
                    exact hK1 (v2, v5.2) hii1 (by (((try clear hR); (try clear hK1); (try clear hK2); (try clear hK3); (try clear hK4); (try clear hK5); intros; (try simp only [w1, w2, w3, w4, w5, w6, swp_len, inR, IntKind.bits] at *)); omega)) hR
                ·
                  refine rg ⟨by ( intros; simp only [inR]; omega), trivial⟩ ?_
                  exact hK1 (v2, v3.2) hii1 (by (((try clear hR); (try clear hK1); (try clear hK2); (try clear hK3); (try clear hK4); (try clear hK5); intros; (try simp only [w1, w2, w3, w4, w5, w6, swp_len, inR, IntKind.bits] at *)); omega)) hR
            ·
              refine rg ⟨by ( intros; simp only [inR]; omega), trivial⟩ ?_
              revert hR; refine cd (fun hc14 hR => ?_) fun hc14 hR => ?_
              ·
                refine rg ⟨by ( intros; simp only [inR]; omega), trivial⟩ ?_
                revert hR; refine lW (fun v => True) (fun v => 0) (by trivial) (Nat.lt_succ_self _) rfl fun m6 v6 F6 hI6 hM6 hR hK6 => ?_
                refine rg trivial ?_
                revert hR; refine cd (fun hc15 hR => ?_) fun hc15 hR => ?_
                ·
                  refine rg ⟨by (((try clear hR); (try clear hK1); (try clear hK2); (try clear hK3); (try clear hK4); (try clear hK5); intros; (try simp only [w1, w2, w3, w4, w5, w6, swp_len, inR, IntKind.bits] at *)); omega), ⟨by (((try clear hR); (try clear hK1); (try clear hK2); (try clear hK3); (try clear hK4); (try clear hK5); intros; (try simp only [w1, w2, w3, w4, w5, w6, swp_len, inR, IntKind.bits] at *)); omega), by (((try clear hR); (try clear hK1); (try clear hK2); (try clear hK3); (try clear hK4); (try clear hK5); intros; (try simp only [w1, w2, w3, w4, w5, w6, swp_len, inR, IntKind.bits] at *)); omega), by (((try clear hR); (try clear hK1); (try clear hK2); (try clear hK3); (try clear hK4); (try clear hK5); intros; (try simp only [w1, w2, w3, w4, w5, w6, swp_len, inR, IntKind.bits] at *)); omega)⟩, trivial⟩ ?_
                  revert hR; refine cd (fun hc16 hR => ?_) fun hc16 hR => ?_
                  ·
                    refine rg ⟨by ( intros; simp only [inR]; omega), trivial⟩ ?_
                    exact hK1 (v2, v6.2) hii1 (by (((try clear hR); (try clear hK1); (try clear hK2); (try clear hK3); (try clear hK4); (try clear hK5); intros; (try simp only [w1, w2, w3, w4, w5, w6, swp_len, inR, IntKind.bits] at *)); omega)) hR
                  ·
                    refine rg ⟨by (((try clear hR); (try clear hK1); (try clear hK2); (try clear hK3); (try clear hK4); (try clear hK5); intros; (try simp only [w1, w2, w3, w4, w5, w6, swp_len, inR, IntKind.bits] at *)); omega), ⟨by (((try clear hR); (try clear hK1); (try clear hK2); (try clear hK3); (try clear hK4); (try clear hK5); intros; (try simp only [w1, w2, w3, w4, w5, w6, swp_len, inR, IntKind.bits] at *)); omega), by (((try clear hR); (try clear hK1); (try clear hK2); (try clear hK3); (try clear hK4); (try clear hK5); intros; (try simp only [w1, w2, w3, w4, w5, w6, swp_len, inR, IntKind.bits] at *)); omega)⟩, trivial⟩ ?_
                    refine rg ⟨by (((try clear hR); (try clear hK1); (try clear hK2); (try clear hK3); (try clear hK4); (try clear hK5); intros; (try simp only [w1, w2, w3, w4, w5, w6, swp_len, inR, IntKind.bits] at *)); omega), trivial⟩ ?_
                    exact hK6 (v6.1 + 1, (swp v6.2 v6.1 (v6.1 - 1))) (by trivial) (by (((try clear hR); (try clear hK1); (try clear hK2); (try clear hK3); (try clear hK4); (try clear hK5); intros; (try simp only [w1, w2, w3, w4, w5, w6, swp_len, inR, IntKind.bits] at *)); omega)) hR
                ·
                  refine rg ⟨by ( intros; simp only [inR]; omega), trivial⟩ ?_
                  exact hK1 (v2, v6.2) hii1 (by (((try clear hR); (try clear hK1); (try clear hK2); (try clear hK3); (try clear hK4); (try clear hK5); intros; (try simp only [w1, w2, w3, w4, w5, w6, swp_len, inR, IntKind.bits] at *)); omega)) hR
              ·
                refine rg ⟨by ( intros; simp only [inR]; omega), trivial⟩ ?_
                exact hK1 (v2, (swp v1.2 v2 (v2 - 1))) hii1 (by (((try clear hR); (try clear hK1); (try clear hK2); (try clear hK3); (try clear hK4); (try clear hK5); intros; (try simp only [w1, w2, w3, w4, w5, w6, swp_len, inR, IntKind.bits] at *)); omega)) hR
    · obtain rfl : i1 = 5 := by have := of_decide_eq_false hc1; omega
      replace hR := loopN_end hR (Nat.lt_irrefl _)
      refine rg trivial ?_
      exact congrArg (C88E x0 x1 x2) hR
  exact FnM.go 91 Try.func88 (by kernel_rfl) (by kernel_rfl) (A88E x0 x1 x2) (by kernel_rfl) (aux _ rfl)
def k88E (d : Nat) (ids : List Nat) (x0 : SrtE) (x1 : Int) (x2 : Int) : Cl := (hresM d ids (C88E x0 x1 x2 (partInsE x0 x1 x2)), k3 (ok_sort_partialInsertionSort_func_E x0 x1 x2))
end Go.Proofs.Ytmefknjcgdbceaa
