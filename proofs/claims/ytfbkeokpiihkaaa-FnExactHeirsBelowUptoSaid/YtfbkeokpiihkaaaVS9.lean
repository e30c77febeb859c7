import Derived.Test.YtfbkeokpiihkaaaSE
set_option maxHeartbeats 4000000
set_option linter.unusedSimpArgs false
set_option linter.unusedVariables false
namespace Go.Proofs.Ytfbkeokpiihkaaa
open Go Go.Lite Go.Proofs
noncomputable def kvoE (d : Nat) (ids : List Nat) (l : List Int) : Cl := (.resM d ids [(900000, .arr 1 l.length (rowOf (cInt .i64) l)), (0, .var [.own 900000])] (.agg [.k Try.prog.globals.size 47, .vp 0 0, .int .u64 151]), k0 (P := FnX Try.prog 97 [.ifc 47 (.own 900000)] [.arr 1 l.length (rowOf (cInt .i64) l)] (.agg [.k Try.prog.globals.size 47, .vp 0 0, .int .u64 151]) [(900000, .arr 1 l.length (rowOf (cInt .i64) l)), (0, .var [.own 900000])]) (FnX.valueOf (t := 47) (e := 3) (ti := Try.t47) Try.func97 (by kernel_rfl) (by kernel_rfl) (by kernel_rfl) (by rfl) (by kernel_rfl) (by kernel_rfl)))
noncomputable def klnE (d : Nat) (ids : List Nat) (l : List Int) : Cl := (.resM d ids (enumB [.arr 1 l.length (rowOf (cInt .i64) l), .var [.own 900000]] 900000) (.int .i64 l.length), k0 (P := FnX Try.prog 99 [.agg [.k Try.prog.globals.size 47, .vp 900001 0, .int .u64 151]] [.arr 1 l.length (rowOf (cInt .i64) l), .var [.own 900000]] (.int .i64 l.length) (enumB [.arr 1 l.length (rowOf (cInt .i64) l), .var [.own 900000]] 900000)) (FnX.valLen (t := 47) (e := 3) (ti := Try.t47) Try.func99 (by kernel_rfl) (by kernel_rfl) (by kernel_rfl) (by rfl) (by kernel_rfl) (by kernel_rfl) (by kernel_rfl) (by kernel_rfl)))
noncomputable def kspE (d : Nat) (ids : List Nat) (l : List Int) : Cl := (.resM d ids (enumB [.arr 1 l.length (rowOf (cInt .i64) l)] 900000) (.clo 112 [.own 900000, .k Try.prog.globals.size 3]), k1 (P := FnX Try.prog 98 [.ifc 47 (.own 900000)] [.arr 1 l.length (rowOf (cInt .i64) l)] (.clo 112 [.own 900000, .k Try.prog.globals.size 3]) (enumB [.arr 1 l.length (rowOf (cInt .i64) l)] 900000)) fun hn => FnX.swapper (t := 47) (e := 3) (ti := Try.t47) (ie := Try.t3) (ke := 2) hn Try.func98 (by kernel_rfl) (by kernel_rfl) (by kernel_rfl) (by rfl) (by kernel_rfl) (by kernel_rfl) (by kernel_rfl) (fun w => by kernel_rfl) (fun m => ⟨rfl, by decide⟩) (by kernel_rfl))

def C73E (x0 : SrtE) (x1 : Unit) (R : (List Int)) : LV × List (Nat × BC) := (.tup [], [(900000, .arr 1 R.length (rowOf (cInt .i64) R)), (900001, .var [.ro false 6 x0.c0.people.length (rowOf (cPerson false) x0.c0.people), .ro false 4 x0.c0.unions.length (rowOf (cUnion false) x0.c0.unions)]), (900002, .var [.own 900000])])
def sliceE (x0 : SrtE) (x1 : Unit) : (List Int) := pdqE x0 0 (x0.l.length : Int) (bitsLen (x0.l.length : Int))
noncomputable def A73E (x0 : SrtE) (x1 : Unit) : Ann := .reg 4 [] [(1, kvoE 9 [900000] x0.l), (1001, kspE 11 [900000] x0.l), (2001, klnE 13 [900000, 1009] x0.l), (3002, k100 (x0.l.length : Int))] [1, 5, 6, 7] [900000, 900001, 900002] [] [pf (inR .u64 (x0.l.length : Int))] [] [4, 8, 12, 0, 16] (.reg 1 [] [(5, k101E 22 [900000, 900001, 900002] x0 0 (x0.l.length : Int) (bitsLen (x0.l.length : Int)))] [] [900000, 900001, 900002] [] [] [] [0] (rt [(900000, some 900000), (900001, some 900001), (900002, some 900002)] (C73E x0 x1 (pdqE x0 0 (x0.l.length : Int) (bitsLen (x0.l.length : Int))))))
theorem ok_sort_Slice_E (x0 : SrtE) (x1 : Unit) (hx : x0.l.length < 50) (hok : OkE x0) (h2 : 2 ≤ x0.l.length) : FnMT Try.prog 73 [.ifc 47 (.own 900000), .clo 137 [.vp 900001 0, .vp 900002 0]] [.arr 1 x0.l.length (rowOf (cInt .i64) x0.l), .var [.ro false 6 x0.c0.people.length (rowOf (cPerson false) x0.c0.people), .ro false 4 x0.c0.unions.length (rowOf (cUnion false) x0.c0.unions)], .var [.own 900000]] (C73E x0 x1 (sliceE x0 x1)) := by
  have aux : ∀ R, sliceE x0 x1 = R → slim (C73E x0 x1 R) (A73E x0 x1) [] := by
    intro R hR
    refine rg ⟨by ( intros; simp only [inR]; omega), trivial, by trivial, trivial, by (intros; omega), trivial⟩ ?_
    refine rg ⟨⟨by (intros; omega), by trivial, by (intros; omega), by (have h9 := bitsLen_r x0.l.length (by omega); ((try clear hR); intros; (try simp only [w1, w2, w3, w4, w5, w6, swp_len, inR, IntKind.bits] at *)); omega)⟩, trivial⟩ ?_
    exact congrArg (C73E x0 x1) hR
  exact FnM.go 23 Try.func73 (by kernel_rfl) (by kernel_rfl) (A73E x0 x1) (by kernel_rfl) (aux _ rfl)
def k73E (d : Nat) (ids : List Nat) (x0 : SrtE) (x1 : Unit) : Cl := (hresM d ids (C73E x0 x1 (sliceE x0 x1)), k3 (ok_sort_Slice_E x0 x1))
structure SrtZ where
  c0 : Family
  l : List Int
  deriving Inhabited

def C119Z (x0 : SrtZ) (x1 : Int) (x2 : Int) (R : (List Int)) : LV × List (Nat × BC) := (.tup [], [(900000, .arr 1 R.length (rowOf (cInt .i64) R)), (900001, .var [.ro false 6 x0.c0.people.length (rowOf (cPerson false) x0.c0.people), .ro false 4 x0.c0.unions.length (rowOf (cUnion false) x0.c0.unions)]), (900002, .var [.own 900000])])
def insSortZ (x0 : SrtZ) (x1 : Int) (x2 : Int) : (List Int) := loopW (fun (v1 : Int) next => x0.l) (0 + 1) (x1 + 1)
def D119Zb1 (x0 : SrtZ) (x1 : Int) (x2 : Int) (v1 : Int) : Dl := ⟨[(6, .int .i64 v1)], []⟩
def A119Zb1 (x0 : SrtZ) (x1 : Int) (x2 : Int) (v1 : Int) : Ann := r0 1 [1, 2, 3, 6, 12] [3, 900000, 900001, 900002] (cn (decide (v1 < x2)) (.next 99 [] ⟨[], []⟩) (rt [(900000, some 900000), (900001, some 900001), (900002, some 900002)] (C119Z x0 x1 x2 x0.l)))
def A119Z (x0 : SrtZ) (x1 : Int) (x2 : Int) : Ann := r1 2 [1, 2, 3, 6] [3, 900000, 900001, 900002] [pf (inR .i64 (x1 + 1))] [0] (.loop Int (D119Zb1 x0 x1 x2) [] [] [] (D119Zb1 x0 x1 x2 (x1 + 1)) (A119Zb1 x0 x1 x2))
theorem ok_sort_insertionSort_func_Z (x0 : SrtZ) (x1 : Int) (x2 : Int) (hx : x0.l.length ≤ 1) (hab : x1 = 0 ∧ x2 = x0.l.length) : FnMT Try.prog 119 [.agg [.clo 137 [.vp 900001 0, .vp 900002 0], .fv], .int .i64 x1, .int .i64 x2] [.arr 1 x0.l.length (rowOf (cInt .i64) x0.l), .var [.ro false 6 x0.c0.people.length (rowOf (cPerson false) x0.c0.people), .ro false 4 x0.c0.unions.length (rowOf (cUnion false) x0.c0.unions)], .var [.own 900000]] (C119Z x0 x1 x2 (insSortZ x0 x1 x2)) := by
  have aux : ∀ R, insSortZ x0 x1 x2 = R → slim (C119Z x0 x1 x2 R) (A119Z x0 x1 x2) [] := by
    intro R hR
    refine rg ⟨by ( intros; simp only [inR]; omega), trivial⟩ ?_
    revert hR; refine lW (fun v => x1 + 1 ≤ v) (fun v => 0) (by (intros; omega)) (Nat.lt_succ_self _) rfl fun m1 v1 F1 hI1 hM1 hR hK1 => ?_
    refine rg trivial ?_
    refine ⟨fun hq => absurd hq (by simp only [decide_eq_true_eq, decide_eq_false_iff_not, Bool.not_eq_true, Bool.not_eq_false]; omega), fun hc1 => ?_⟩
    exact congrArg (C119Z x0 x1 x2) hR
  exact FnM.go 35 Try.func119 (by kernel_rfl) (by kernel_rfl) (A119Z x0 x1 x2) (by kernel_rfl) (aux _ rfl)
def k119Z (d : Nat) (ids : List Nat) (x0 : SrtZ) (x1 : Int) (x2 : Int) : Cl := (hresM d ids (C119Z x0 x1 x2 (insSortZ x0 x1 x2)), k2 (ok_sort_insertionSort_func_Z x0 x1 x2))
def C101Z (x0 : SrtZ) (x1 : Int) (x2 : Int) (x3 : Int) (R : (List Int)) : LV × List (Nat × BC) := (.tup [], [(900000, .arr 1 R.length (rowOf (cInt .i64) R)), (900001, .var [.ro false 6 x0.c0.people.length (rowOf (cPerson false) x0.c0.people), .ro false 4 x0.c0.unions.length (rowOf (cUnion false) x0.c0.unions)]), (900002, .var [.own 900000])])
def pdqZ (x0 : SrtZ) (x1 : Int) (x2 : Int) (x3 : Int) : (List Int) := loopW (fun (v1 : Int × Int × Int × Bool × Bool) next => insSortZ x0 v1.1 v1.2.1) (0 + 1) (x1, x2, x3, true, true)
def D101Zb1 (x0 : SrtZ) (x1 : Int) (x2 : Int) (x3 : Int) (v1 : Int × Int × Int × Bool × Bool) : Dl := ⟨[(1, .int .i64 v1.1), (2, .int .i64 v1.2.1), (3, .int .i64 v1.2.2.1), (8, .bool v1.2.2.2.1), (9, .bool v1.2.2.2.2)], []⟩
def A101Zb1 (x0 : SrtZ) (x1 : Int) (x2 : Int) (x3 : Int) (v1 : Int × Int × Int × Bool × Bool) : Ann := r1 1 [1, 2, 3, 4, 8, 9, 10] [4, 900000, 900001, 900002] [pf (inR .i64 (v1.2.1 - v1.1))] [0] (r0 1 [1, 2, 3, 4, 8, 9, 10, 23] [4, 900000, 900001, 900002] (cn (decide ((v1.2.1 - v1.1) ≤ 12)) (.reg 1 [] [(3, k119Z 27 [900000, 900001, 900002] x0 v1.1 v1.2.1)] [1, 2, 3, 4, 8, 9, 10] [4, 900000, 900001, 900002] [] [] [] [0] (rt [(900000, some 900000), (900001, some 900001), (900002, some 900002)] (C101Z x0 x1 x2 x3 (insSortZ x0 v1.1 v1.2.1)))) (.next 99 [] ⟨[], []⟩)))
def A101Z (x0 : SrtZ) (x1 : Int) (x2 : Int) (x3 : Int) : Ann := r0 3 [1, 2, 3, 4, 8, 9] [4, 900000, 900001, 900002] (.loop (Int × Int × Int × Bool × Bool) (D101Zb1 x0 x1 x2 x3) [] [] [] (D101Zb1 x0 x1 x2 x3 (x1, x2, x3, true, true)) (A101Zb1 x0 x1 x2 x3))
theorem ok_sort_pdqsort_func_Z (x0 : SrtZ) (x1 : Int) (x2 : Int) (x3 : Int) (hx : x0.l.length ≤ 1) (hab : x1 = 0 ∧ x2 = x0.l.length) : FnMT Try.prog 101 [.agg [.clo 137 [.vp 900001 0, .vp 900002 0], .fv], .int .i64 x1, .int .i64 x2, .int .i64 x3] [.arr 1 x0.l.length (rowOf (cInt .i64) x0.l), .var [.ro false 6 x0.c0.people.length (rowOf (cPerson false) x0.c0.people), .ro false 4 x0.c0.unions.length (rowOf (cUnion false) x0.c0.unions)], .var [.own 900000]] (C101Z x0 x1 x2 x3 (pdqZ x0 x1 x2 x3)) := by
  have aux : ∀ R, pdqZ x0 x1 x2 x3 = R → slim (C101Z x0 x1 x2 x3 R) (A101Z x0 x1 x2 x3) [] := by
    intro R hR
    refine rg trivial ?_
    revert hR; refine lW (fun v => v.1 = x1 ∧ v.2.1 = x2) (fun v => 0) (by trivial) (Nat.lt_succ_self _) rfl fun m1 v1 F1 hI1 hM1 hR hK1 => ?_
    refine rg ⟨by ( intros; simp only [inR]; omega), trivial⟩ ?_
    refine rg trivial ?_
    refine ⟨fun hc1 => ?_, fun hq => absurd hq (by simp only [decide_eq_true_eq, decide_eq_false_iff_not, Bool.not_eq_true, Bool.not_eq_false]; omega)⟩
    refine rg ⟨⟨by trivial, by (intros; omega)⟩, trivial⟩ ?_
    exact congrArg (C101Z x0 x1 x2 x3) hR
  exact FnM.go 130 Try.func101 (by kernel_rfl) (by kernel_rfl) (A101Z x0 x1 x2 x3) (by kernel_rfl) (aux _ rfl)
def k101Z (d : Nat) (ids : List Nat) (x0 : SrtZ) (x1 : Int) (x2 : Int) (x3 : Int) : Cl := (hresM d ids (C101Z x0 x1 x2 x3 (pdqZ x0 x1 x2 x3)), k2 (ok_sort_pdqsort_func_Z x0 x1 x2 x3))
noncomputable def kvoZ (d : Nat) (ids : List Nat) (l : List Int) : Cl := (.resM d ids [(900000, .arr 1 l.length (rowOf (cInt .i64) l)), (0, .var [.own 900000])] (.agg [.k Try.prog.globals.size 47, .vp 0 0, .int .u64 151]), k0 (P := FnX Try.prog 97 [.ifc 47 (.own 900000)] [.arr 1 l.length (rowOf (cInt .i64) l)] (.agg [.k Try.prog.globals.size 47, .vp 0 0, .int .u64 151]) [(900000, .arr 1 l.length (rowOf (cInt .i64) l)), (0, .var [.own 900000])]) (FnX.valueOf (t := 47) (e := 3) (ti := Try.t47) Try.func97 (by kernel_rfl) (by kernel_rfl) (by kernel_rfl) (by rfl) (by kernel_rfl) (by kernel_rfl)))
noncomputable def klnZ (d : Nat) (ids : List Nat) (l : List Int) : Cl := (.resM d ids (enumB [.arr 1 l.length (rowOf (cInt .i64) l), .var [.own 900000]] 900000) (.int .i64 l.length), k0 (P := FnX Try.prog 99 [.agg [.k Try.prog.globals.size 47, .vp 900001 0, .int .u64 151]] [.arr 1 l.length (rowOf (cInt .i64) l), .var [.own 900000]] (.int .i64 l.length) (enumB [.arr 1 l.length (rowOf (cInt .i64) l), .var [.own 900000]] 900000)) (FnX.valLen (t := 47) (e := 3) (ti := Try.t47) Try.func99 (by kernel_rfl) (by kernel_rfl) (by kernel_rfl) (by rfl) (by kernel_rfl) (by kernel_rfl) (by kernel_rfl) (by kernel_rfl)))
noncomputable def kspZ (d : Nat) (ids : List Nat) (l : List Int) : Cl := (.resM d ids (enumB [.arr 1 l.length (rowOf (cInt .i64) l)] 900000) .fv, k1 (P := FnX Try.prog 98 [.ifc 47 (.own 900000)] [.arr 1 l.length (rowOf (cInt .i64) l)] .fv (enumB [.arr 1 l.length (rowOf (cInt .i64) l)] 900000)) fun hn => FnX.swapper0 (t := 47) (e := 3) (ti := Try.t47) (ie := Try.t3) (ke := 2) (g0 := 108) (g1 := 109) hn Try.func98 (by kernel_rfl) (by kernel_rfl) (by kernel_rfl) (by rfl) (by kernel_rfl) (by kernel_rfl) (by kernel_rfl) (fun w => by kernel_rfl) (by kernel_rfl) (by kernel_rfl))

def C73Z (x0 : SrtZ) (x1 : Unit) (R : (List Int)) : LV × List (Nat × BC) := (.tup [], [(900000, .arr 1 R.length (rowOf (cInt .i64) R)), (900001, .var [.ro false 6 x0.c0.people.length (rowOf (cPerson false) x0.c0.people), .ro false 4 x0.c0.unions.length (rowOf (cUnion false) x0.c0.unions)]), (900002, .var [.own 900000])])
def sliceZ (x0 : SrtZ) (x1 : Unit) : (List Int) := pdqZ x0 0 (x0.l.length : Int) (bitsLen (x0.l.length : Int))
noncomputable def A73Z (x0 : SrtZ) (x1 : Unit) : Ann := .reg 4 [] [(1, kvoZ 9 [900000] x0.l), (1001, kspZ 11 [900000] x0.l), (2001, klnZ 13 [900000, 1009] x0.l), (3002, k100 (x0.l.length : Int))] [1, 5, 6, 7] [900000, 900001, 900002] [] [pf (inR .u64 (x0.l.length : Int))] [] [4, 8, 12, 0, 16] (.reg 1 [] [(5, k101Z 22 [900000, 900001, 900002] x0 0 (x0.l.length : Int) (bitsLen (x0.l.length : Int)))] [] [900000, 900001, 900002] [] [] [] [0] (rt [(900000, some 900000), (900001, some 900001), (900002, some 900002)] (C73Z x0 x1 (pdqZ x0 0 (x0.l.length : Int) (bitsLen (x0.l.length : Int))))))
theorem ok_sort_Slice_Z (x0 : SrtZ) (x1 : Unit) (hx : x0.l.length ≤ 1) : FnMT Try.prog 73 [.ifc 47 (.own 900000), .clo 137 [.vp 900001 0, .vp 900002 0]] [.arr 1 x0.l.length (rowOf (cInt .i64) x0.l), .var [.ro false 6 x0.c0.people.length (rowOf (cPerson false) x0.c0.people), .ro false 4 x0.c0.unions.length (rowOf (cUnion false) x0.c0.unions)], .var [.own 900000]] (C73Z x0 x1 (sliceZ x0 x1)) := by
  have aux : ∀ R, sliceZ x0 x1 = R → slim (C73Z x0 x1 R) (A73Z x0 x1) [] := by
    intro R hR
    refine rg ⟨by ( intros; simp only [inR]; omega), trivial, by trivial, trivial, by (intros; omega), trivial⟩ ?_
    refine rg ⟨⟨by trivial, by trivial⟩, trivial⟩ ?_
    exact congrArg (C73Z x0 x1) hR
  exact FnM.go 23 Try.func73 (by kernel_rfl) (by kernel_rfl) (A73Z x0 x1) (by kernel_rfl) (aux _ rfl)
def k73Z (d : Nat) (ids : List Nat) (x0 : SrtZ) (x1 : Unit) : Cl := (hresM d ids (C73Z x0 x1 (sliceZ x0 x1)), k1 (ok_sort_Slice_Z x0 x1))
end Go.Proofs.Ytfbkeokpiihkaaa
