import Derived.Test.YtkkijpibajigfaaSEL
set_option maxHeartbeats 4000000
set_option linter.unusedSimpArgs false
set_option linter.unusedVariables false
namespace Go.Proofs.Ytkkijpibajigfaa
open Go Go.Lite Go.Proofs
noncomputable def kvoL (d : Nat) (ids : List Nat) (l : List (List Int)) : Cl := (.resM d ids [(900000, .nest true 1 l.length (nrOf (cInt .i64) l)), (0, .var [.own 900000])] (.agg [.k Try.prog.globals.size 54, .vp 0 0, .int .u64 151]), k0 (P := FnX Try.prog 128 [.ifc 54 (.own 900000)] [.nest true 1 l.length (nrOf (cInt .i64) l)] (.agg [.k Try.prog.globals.size 54, .vp 0 0, .int .u64 151]) [(900000, .nest true 1 l.length (nrOf (cInt .i64) l)), (0, .var [.own 900000])]) (FnX.valueOfN (t := 54) (e := 47) (ti := Try.t54) Try.func128 (by kernel_rfl) (by kernel_rfl) (by kernel_rfl) (by rfl) (by kernel_rfl) (by kernel_rfl)))
noncomputable def klnL (d : Nat) (ids : List Nat) (l : List (List Int)) : Cl := (.resM d ids (enumB [.nest true 1 l.length (nrOf (cInt .i64) l), .var [.own 900000]] 900000) (.int .i64 l.length), k0 (P := FnX Try.prog 130 [.agg [.k Try.prog.globals.size 54, .vp 900001 0, .int .u64 151]] [.nest true 1 l.length (nrOf (cInt .i64) l), .var [.own 900000]] (.int .i64 l.length) (enumB [.nest true 1 l.length (nrOf (cInt .i64) l), .var [.own 900000]] 900000)) (FnX.valLenN (t := 54) (e := 47) (ti := Try.t54) Try.func130 (by kernel_rfl) (by kernel_rfl) (by kernel_rfl) (by rfl) (by kernel_rfl) (by kernel_rfl) (by kernel_rfl) (by kernel_rfl)))
noncomputable def kspL (d : Nat) (ids : List Nat) (l : List (List Int)) : Cl := (.resM d ids (enumB [.nest true 1 l.length (nrOf (cInt .i64) l)] 900000) (.clo 151 [.own 900000, .k Try.prog.globals.size 47]), k1 (P := FnX Try.prog 129 [.ifc 54 (.own 900000)] [.nest true 1 l.length (nrOf (cInt .i64) l)] (.clo 151 [.own 900000, .k Try.prog.globals.size 47]) (enumB [.nest true 1 l.length (nrOf (cInt .i64) l)] 900000)) fun hn => FnX.swapperN (t := 54) (e := 47) (ti := Try.t54) (ie := Try.t47) (ke := 23) hn Try.func129 (by kernel_rfl) (by kernel_rfl) (by kernel_rfl) (by rfl) (by kernel_rfl) (by kernel_rfl) (by kernel_rfl) (fun w => by kernel_rfl) (fun m => ⟨rfl, by decide⟩) (by kernel_rfl))

def C109L (x0 : SrtL) (x1 : Unit) (R : (List (List Int))) : LV × List (Nat × BC) := (.tup [], [(900000, .nest true 1 R.length (nrOf (cInt .i64) R)), (900001, .var [.own 900000])])
def sliceL (x0 : SrtL) (x1 : Unit) : (List (List Int)) := pdqL x0 0 (x0.l.length : Int) (bitsLen (x0.l.length : Int))
noncomputable def A109L (x0 : SrtL) (x1 : Unit) : Ann := .reg 4 [] [(1, kvoL 9 [900000] x0.l), (1001, kspL 11 [900000] x0.l), (2001, klnL 13 [900000, 1009] x0.l), (3002, k131 (x0.l.length : Int))] [1, 5, 6, 7] [900000, 900001] [] [pf (inR .u64 (x0.l.length : Int))] [] [4, 8, 12, 0, 16] (.reg 1 [] [(5, k132L 22 [900000, 900001] x0 0 (x0.l.length : Int) (bitsLen (x0.l.length : Int)))] [] [900000, 900001] [] [] [] [0] (rt [(900000, some 900000), (900001, some 900001)] (C109L x0 x1 (pdqL x0 0 (x0.l.length : Int) (bitsLen (x0.l.length : Int))))))
theorem ok_sort_Slice_L (x0 : SrtL) (x1 : Unit) (hx : x0.l.length ≤ 255) (hok : OkL x0) (h2 : 2 ≤ x0.l.length) : FnMT Try.prog 109 [.ifc 54 (.own 900000), .clo 110 [.vp 900001 0]] [.nest true 1 x0.l.length (nrOf (cInt .i64) x0.l), .var [.own 900000]] (C109L x0 x1 (sliceL x0 x1)) := by
  have aux : ∀ R, sliceL x0 x1 = R → slim (C109L x0 x1 R) (A109L x0 x1) [] := by
    intro R hR
    refine rg ⟨by ( intros; simp only [inR]; omega), trivial, by trivial, trivial, by (intros; omega), trivial⟩ ?_
    refine rg ⟨⟨by trivial, by trivial, by (intros; omega), by (have h9 := bitsLen_r x0.l.length (by omega); ((try clear hR); intros; (try simp only [w1, w2, w3, w4, w5, w6, swp_len, inR, IntKind.bits] at *)); omega)⟩, trivial⟩ ?_
    exact congrArg (C109L x0 x1) hR
  exact FnM.go 23 Try.func109 (by kernel_rfl) (by kernel_rfl) (A109L x0 x1) (by kernel_rfl) (aux _ rfl)
def k109L (d : Nat) (ids : List Nat) (x0 : SrtL) (x1 : Unit) : Cl := (hresM d ids (C109L x0 x1 (sliceL x0 x1)), k3 (ok_sort_Slice_L x0 x1))
structure SrtY where

  l : List (List Int)
  deriving Inhabited

def C154Y (x0 : SrtY) (x1 : Int) (x2 : Int) (R : (List (List Int))) : LV × List (Nat × BC) := (.tup [], [(900000, .nest true 1 R.length (nrOf (cInt .i64) R)), (900001, .var [.own 900000])])
def insSortY (x0 : SrtY) (x1 : Int) (x2 : Int) : (List (List Int)) := loopW (fun (v1 : Int) next => x0.l) (0 + 1) (x1 + 1)
def D154Yb1 (x0 : SrtY) (x1 : Int) (x2 : Int) (v1 : Int) : Dl := ⟨[(6, .int .i64 v1)], []⟩
def A154Yb1 (x0 : SrtY) (x1 : Int) (x2 : Int) (v1 : Int) : Ann := r0 1 [1, 2, 3, 6, 12] [3, 900000, 900001] (cn (decide (v1 < x2)) (.next 99 [] ⟨[], []⟩) (rt [(900000, some 900000), (900001, some 900001)] (C154Y x0 x1 x2 x0.l)))
def A154Y (x0 : SrtY) (x1 : Int) (x2 : Int) : Ann := r1 2 [1, 2, 3, 6] [3, 900000, 900001] [pf (inR .i64 (x1 + 1))] [0] (.loop Int (D154Yb1 x0 x1 x2) [] [] [] (D154Yb1 x0 x1 x2 (x1 + 1)) (A154Yb1 x0 x1 x2))
theorem ok_sort_insertionSort_func_Y (x0 : SrtY) (x1 : Int) (x2 : Int) (hx : x0.l.length ≤ 1) (hab : x1 = 0 ∧ x2 = x0.l.length) : FnMT Try.prog 154 [.agg [.clo 110 [.vp 900001 0], .fv], .int .i64 x1, .int .i64 x2] [.nest true 1 x0.l.length (nrOf (cInt .i64) x0.l), .var [.own 900000]] (C154Y x0 x1 x2 (insSortY x0 x1 x2)) := by
  have aux : ∀ R, insSortY x0 x1 x2 = R → slim (C154Y x0 x1 x2 R) (A154Y x0 x1 x2) [] := by
    intro R hR
    refine rg ⟨by ( intros; simp only [inR]; omega), trivial⟩ ?_
    revert hR; refine lW (fun v => x1 + 1 ≤ v) (fun v => 0) (by (intros; omega)) (Nat.lt_succ_self _) rfl fun m1 v1 F1 hI1 hM1 hR hK1 => ?_
    refine rg trivial ?_
    refine ⟨fun hq => absurd hq (by simp only [decide_eq_true_eq, decide_eq_false_iff_not, Bool.not_eq_true, Bool.not_eq_false]; omega), fun hc1 => ?_⟩
    exact congrArg (C154Y x0 x1 x2) hR
  exact FnM.go 35 Try.func154 (by kernel_rfl) (by kernel_rfl) (A154Y x0 x1 x2) (by kernel_rfl) (aux _ rfl)
def k154Y (d : Nat) (ids : List Nat) (x0 : SrtY) (x1 : Int) (x2 : Int) : Cl := (hresM d ids (C154Y x0 x1 x2 (insSortY x0 x1 x2)), k2 (ok_sort_insertionSort_func_Y x0 x1 x2))
def C132Y (x0 : SrtY) (x1 : Int) (x2 : Int) (x3 : Int) (R : (List (List Int))) : LV × List (Nat × BC) := (.tup [], [(900000, .nest true 1 R.length (nrOf (cInt .i64) R)), (900001, .var [.own 900000])])
def pdqY (x0 : SrtY) (x1 : Int) (x2 : Int) (x3 : Int) : (List (List Int)) := loopW (fun (v1 : Int × Int × Int × Bool × Bool) next => insSortY x0 v1.1 v1.2.1) (0 + 1) (x1, x2, x3, true, true)
def D132Yb1 (x0 : SrtY) (x1 : Int) (x2 : Int) (x3 : Int) (v1 : Int × Int × Int × Bool × Bool) : Dl := ⟨[(1, .int .i64 v1.1), (2, .int .i64 v1.2.1), (3, .int .i64 v1.2.2.1), (8, .bool v1.2.2.2.1), (9, .bool v1.2.2.2.2)], []⟩
def A132Yb1 (x0 : SrtY) (x1 : Int) (x2 : Int) (x3 : Int) (v1 : Int × Int × Int × Bool × Bool) : Ann := r1 1 [1, 2, 3, 4, 8, 9, 10] [4, 900000, 900001] [pf (inR .i64 (v1.2.1 - v1.1))] [0] (r0 1 [1, 2, 3, 4, 8, 9, 10, 23] [4, 900000, 900001] (cn (decide ((v1.2.1 - v1.1) ≤ 12)) (.reg 1 [] [(3, k154Y 27 [900000, 900001] x0 v1.1 v1.2.1)] [1, 2, 3, 4, 8, 9, 10] [4, 900000, 900001] [] [] [] [0] (rt [(900000, some 900000), (900001, some 900001)] (C132Y x0 x1 x2 x3 (insSortY x0 v1.1 v1.2.1)))) (.next 99 [] ⟨[], []⟩)))
def A132Y (x0 : SrtY) (x1 : Int) (x2 : Int) (x3 : Int) : Ann := r0 3 [1, 2, 3, 4, 8, 9] [4, 900000, 900001] (.loop (Int × Int × Int × Bool × Bool) (D132Yb1 x0 x1 x2 x3) [] [] [] (D132Yb1 x0 x1 x2 x3 (x1, x2, x3, true, true)) (A132Yb1 x0 x1 x2 x3))
theorem ok_sort_pdqsort_func_Y (x0 : SrtY) (x1 : Int) (x2 : Int) (x3 : Int) (hx : x0.l.length ≤ 1) (hab : x1 = 0 ∧ x2 = x0.l.length) : FnMT Try.prog 132 [.agg [.clo 110 [.vp 900001 0], .fv], .int .i64 x1, .int .i64 x2, .int .i64 x3] [.nest true 1 x0.l.length (nrOf (cInt .i64) x0.l), .var [.own 900000]] (C132Y x0 x1 x2 x3 (pdqY x0 x1 x2 x3)) := by
  have aux : ∀ R, pdqY x0 x1 x2 x3 = R → slim (C132Y x0 x1 x2 x3 R) (A132Y x0 x1 x2 x3) [] := by
    intro R hR
    refine rg trivial ?_
    revert hR; refine lW (fun v => v.1 = x1 ∧ v.2.1 = x2) (fun v => 0) (by trivial) (Nat.lt_succ_self _) rfl fun m1 v1 F1 hI1 hM1 hR hK1 => ?_
    refine rg ⟨by ( intros; simp only [inR]; omega), trivial⟩ ?_
    refine rg trivial ?_
    refine ⟨fun hc1 => ?_, fun hq => absurd hq (by simp only [decide_eq_true_eq, decide_eq_false_iff_not, Bool.not_eq_true, Bool.not_eq_false]; omega)⟩
    refine rg ⟨⟨by trivial, by (intros; omega)⟩, trivial⟩ ?_
    exact congrArg (C132Y x0 x1 x2 x3) hR
  exact FnM.go 130 Try.func132 (by kernel_rfl) (by kernel_rfl) (A132Y x0 x1 x2 x3) (by kernel_rfl) (aux _ rfl)
def k132Y (d : Nat) (ids : List Nat) (x0 : SrtY) (x1 : Int) (x2 : Int) (x3 : Int) : Cl := (hresM d ids (C132Y x0 x1 x2 x3 (pdqY x0 x1 x2 x3)), k2 (ok_sort_pdqsort_func_Y x0 x1 x2 x3))
noncomputable def kvoY (d : Nat) (ids : List Nat) (l : List (List Int)) : Cl := (.resM d ids [(900000, .nest true 1 l.length (nrOf (cInt .i64) l)), (0, .var [.own 900000])] (.agg [.k Try.prog.globals.size 54, .vp 0 0, .int .u64 151]), k0 (P := FnX Try.prog 128 [.ifc 54 (.own 900000)] [.nest true 1 l.length (nrOf (cInt .i64) l)] (.agg [.k Try.prog.globals.size 54, .vp 0 0, .int .u64 151]) [(900000, .nest true 1 l.length (nrOf (cInt .i64) l)), (0, .var [.own 900000])]) (FnX.valueOfN (t := 54) (e := 47) (ti := Try.t54) Try.func128 (by kernel_rfl) (by kernel_rfl) (by kernel_rfl) (by rfl) (by kernel_rfl) (by kernel_rfl)))
noncomputable def klnY (d : Nat) (ids : List Nat) (l : List (List Int)) : Cl := (.resM d ids (enumB [.nest true 1 l.length (nrOf (cInt .i64) l), .var [.own 900000]] 900000) (.int .i64 l.length), k0 (P := FnX Try.prog 130 [.agg [.k Try.prog.globals.size 54, .vp 900001 0, .int .u64 151]] [.nest true 1 l.length (nrOf (cInt .i64) l), .var [.own 900000]] (.int .i64 l.length) (enumB [.nest true 1 l.length (nrOf (cInt .i64) l), .var [.own 900000]] 900000)) (FnX.valLenN (t := 54) (e := 47) (ti := Try.t54) Try.func130 (by kernel_rfl) (by kernel_rfl) (by kernel_rfl) (by rfl) (by kernel_rfl) (by kernel_rfl) (by kernel_rfl) (by kernel_rfl)))
noncomputable def kspY (d : Nat) (ids : List Nat) (l : List (List Int)) : Cl := (.resM d ids (enumB [.nest true 1 l.length (nrOf (cInt .i64) l)] 900000) .fv, k1 (P := FnX Try.prog 129 [.ifc 54 (.own 900000)] [.nest true 1 l.length (nrOf (cInt .i64) l)] .fv (enumB [.nest true 1 l.length (nrOf (cInt .i64) l)] 900000)) fun hn => FnX.swapper0N (t := 54) (e := 47) (ti := Try.t54) (ie := Try.t47) (ke := 23) (g0 := 143) (g1 := 144) hn Try.func129 (by kernel_rfl) (by kernel_rfl) (by kernel_rfl) (by rfl) (by kernel_rfl) (by kernel_rfl) (by kernel_rfl) (fun w => by kernel_rfl) (by kernel_rfl) (by kernel_rfl))

def C109Y (x0 : SrtY) (x1 : Unit) (R : (List (List Int))) : LV × List (Nat × BC) := (.tup [], [(900000, .nest true 1 R.length (nrOf (cInt .i64) R)), (900001, .var [.own 900000])])
def sliceY (x0 : SrtY) (x1 : Unit) : (List (List Int)) := pdqY x0 0 (x0.l.length : Int) (bitsLen (x0.l.length : Int))
noncomputable def A109Y (x0 : SrtY) (x1 : Unit) : Ann := .reg 4 [] [(1, kvoY 9 [900000] x0.l), (1001, kspY 11 [900000] x0.l), (2001, klnY 13 [900000, 1009] x0.l), (3002, k131 (x0.l.length : Int))] [1, 5, 6, 7] [900000, 900001] [] [pf (inR .u64 (x0.l.length : Int))] [] [4, 8, 12, 0, 16] (.reg 1 [] [(5, k132Y 22 [900000, 900001] x0 0 (x0.l.length : Int) (bitsLen (x0.l.length : Int)))] [] [900000, 900001] [] [] [] [0] (rt [(900000, some 900000), (900001, some 900001)] (C109Y x0 x1 (pdqY x0 0 (x0.l.length : Int) (bitsLen (x0.l.length : Int))))))
theorem ok_sort_Slice_Y (x0 : SrtY) (x1 : Unit) (hx : x0.l.length ≤ 1) : FnMT Try.prog 109 [.ifc 54 (.own 900000), .clo 110 [.vp 900001 0]] [.nest true 1 x0.l.length (nrOf (cInt .i64) x0.l), .var [.own 900000]] (C109Y x0 x1 (sliceY x0 x1)) := by
  have aux : ∀ R, sliceY x0 x1 = R → slim (C109Y x0 x1 R) (A109Y x0 x1) [] := by
    intro R hR
    refine rg ⟨by ( intros; simp only [inR]; omega), trivial, by trivial, trivial, by (intros; omega), trivial⟩ ?_
    refine rg ⟨⟨by trivial, by trivial⟩, trivial⟩ ?_
    exact congrArg (C109Y x0 x1) hR
  exact FnM.go 23 Try.func109 (by kernel_rfl) (by kernel_rfl) (A109Y x0 x1) (by kernel_rfl) (aux _ rfl)
def k109Y (d : Nat) (ids : List Nat) (x0 : SrtY) (x1 : Unit) : Cl := (hresM d ids (C109Y x0 x1 (sliceY x0 x1)), k1 (ok_sort_Slice_Y x0 x1))
end Go.Proofs.Ytkkijpibajigfaa
