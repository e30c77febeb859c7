import Derived.Test.YtmefknjcgdbceaaSE
set_option maxHeartbeats 4000000
set_option linter.unusedSimpArgs false
set_option linter.unusedVariables false
namespace Go.Proofs.Ytmefknjcgdbceaa
open Go Go.Lite Go.Proofs
noncomputable def kvoE (d : Nat) (ids : List Nat) (l : List Int) : Cl := (.resM d ids [(900000, .arr 1 l.length (rowOf (cInt .i64) l)), (0, .var [.own 900000])] (.agg [.k Try.prog.globals.size 47, .vp 0 0, .int .u64 151]), k0 (P := FnX Try.prog 67 [.ifc 47 (.own 900000)] [.arr 1 l.length (rowOf (cInt .i64) l)] (.agg [.k Try.prog.globals.size 47, .vp 0 0, .int .u64 151]) [(900000, .arr 1 l.length (rowOf (cInt .i64) l)), (0, .var [.own 900000])]) (FnX.valueOf (t := 47) (e := 3) (ti := Try.t47) Try.func67 (by kernel_rfl) (by kernel_rfl) (by kernel_rfl) (by rfl) (by kernel_rfl) (by kernel_rfl)))
noncomputable def klnE (d : Nat) (ids : List Nat) (l : List Int) : Cl := (.resM d ids (enumB [.arr 1 l.length (rowOf (cInt .i64) l), .var [.own 900000]] 900000) (.int .i64 l.length), k0 (P := FnX Try.prog 69 [.agg [.k Try.prog.globals.size 47, .vp 900001 0, .int .u64 151]] [.arr 1 l.length (rowOf (cInt .i64) l), .var [.own 900000]] (.int .i64 l.length) (enumB [.arr 1 l.length (rowOf (cInt .i64) l), .var [.own 900000]] 900000)) (FnX.valLen (t := 47) (e := 3) (ti := Try.t47) Try.func69 (by kernel_rfl) (by kernel_rfl) (by kernel_rfl) (by rfl) (by kernel_rfl) (by kernel_rfl) (by kernel_rfl) (by kernel_rfl)))
noncomputable def kspE (d : Nat) (ids : List Nat) (l : List Int) : Cl := (.resM d ids (enumB [.arr 1 l.length (rowOf (cInt .i64) l)] 900000) (.clo 76 [.own 900000, .k Try.prog.globals.size 3]), k1 (P := FnX Try.prog 68 [.ifc 47 (.own 900000)] [.arr 1 l.length (rowOf (cInt .i64) l)] (.clo 76 [.own 900000, .k Try.prog.globals.size 3]) (enumB [.arr 1 l.length (rowOf (cInt .i64) l)] 900000)) fun hn => FnX.swapper (t := 47) (e := 3) (ti := Try.t47) (ie := Try.t3) (ke := 2) hn Try.func68 (by kernel_rfl) (by kernel_rfl) (by kernel_rfl) (by rfl) (by kernel_rfl) (by kernel_rfl) (by kernel_rfl) (fun w => by kernel_rfl) (fun m => ⟨rfl, by decide⟩) (by kernel_rfl))

def C61E (x0 : SrtE) (x1 : Unit) (R : (List Int)) : LV × List (Nat × BC) := (.tup [], [(900000, .arr 1 R.length (rowOf (cInt .i64) R)), (900001, .var [.ro false 6 x0.c0.people.length (rowOf (cPerson false) x0.c0.people), .ro false 4 x0.c0.unions.length (rowOf (cUnion false) x0.c0.unions)]), (900002, .var [.own 900000])])
def sliceE (x0 : SrtE) (x1 : Unit) : (List Int) := pdqE x0 0 (x0.l.length : Int) (bitsLen (x0.l.length : Int))
noncomputable def A61E (x0 : SrtE) (x1 : Unit) : Ann := .reg 4 [] [(1, kvoE 9 [900000] x0.l), (1001, kspE 11 [900000] x0.l), (2001, klnE 13 [900000, 1009] x0.l), (3002, k70 (x0.l.length : Int))] [1, 5, 6, 7] [900000, 900001, 900002] [] [pf (inR .u64 (x0.l.length : Int))] [] [4, 8, 12, 0, 16] (.reg 1 [] [(5, k71E 22 [900000, 900001, 900002] x0 0 (x0.l.length : Int) (bitsLen (x0.l.length : Int)))] [] [900000, 900001, 900002] [] [] [] [0] (rt [(900000, some 900000), (900001, some 900001), (900002, some 900002)] (C61E x0 x1 (pdqE x0 0 (x0.l.length : Int) (bitsLen (x0.l.length : Int))))))
theorem ok_sort_Slice_E (x0 : SrtE) (x1 : Unit) (hx : x0.l.length < 50) (hok : OkE x0) (h2 : 2 ≤ x0.l.length) : FnMT Try.prog 61 [.ifc 47 (.own 900000), .clo 62 [.vp 900001 0, .vp 900002 0]] [.arr 1 x0.l.length (rowOf (cInt .i64) x0.l), .var [.ro false 6 x0.c0.people.length (rowOf (cPerson false) x0.c0.people), .ro false 4 x0.c0.unions.length (rowOf (cUnion false) x0.c0.unions)], .var [.own 900000]] (C61E x0 x1 (sliceE x0 x1)) := by
  have aux : ∀ R, sliceE x0 x1 = R → slim (C61E x0 x1 R) (A61E x0 x1) [] := by
    intro R hR
    refine rg ⟨by ( intros; simp only [inR]; omega), trivial, by trivial, trivial, by (intros; omega), trivial⟩ ?_
    refine rg ⟨⟨by (intros; omega), by trivial, by (intros; omega), by (have h9 := bitsLen_r x0.l.length (by omega); ((try clear hR); intros; (try simp only [w1, w2, w3, w4, w5, w6, swp_len, inR, IntKind.bits] at *)); omega)⟩, trivial⟩ ?_
    exact congrArg (C61E x0 x1) hR
  exact FnM.go 23 Try.func61 (by kernel_rfl) (by kernel_rfl) (A61E x0 x1) (by kernel_rfl) (aux _ rfl)
def k61E (d : Nat) (ids : List Nat) (x0 : SrtE) (x1 : Unit) : Cl := (hresM d ids (C61E x0 x1 (sliceE x0 x1)), k3 (ok_sort_Slice_E x0 x1))
structure SrtZ where
  c0 : Family
  l : List Int
  deriving Inhabited

def C83Z (x0 : SrtZ) (x1 : Int) (x2 : Int) (R : (List Int)) : LV × List (Nat × BC) := (.tup [], [(900000, .arr 1 R.length (rowOf (cInt .i64) R)), (900001, .var [.ro false 6 x0.c0.people.length (rowOf (cPerson false) x0.c0.people), .ro false 4 x0.c0.unions.length (rowOf (cUnion false) x0.c0.unions)]), (900002, .var [.own 900000])])
def insSortZ (x0 : SrtZ) (x1 : Int) (x2 : Int) : (List Int) := loopW (fun (v1 : Int) next => x0.l) (0 + 1) (x1 + 1)
def D83Zb1 (x0 : SrtZ) (x1 : Int) (x2 : Int) (v1 : Int) : Dl := ⟨[(6, .int .i64 v1)], []⟩
def A83Zb1 (x0 : SrtZ) (x1 : Int) (x2 : Int) (v1 : Int) : Ann := r0 1 [1, 2, 3, 6, 12] [3, 900000, 900001, 900002] (cn (decide (v1 < x2)) (.next 99 [] ⟨[], []⟩) (rt [(900000, some 900000), (900001, some 900001), (900002, some 900002)] (C83Z x0 x1 x2 x0.l)))
def A83Z (x0 : SrtZ) (x1 : Int) (x2 : Int) : Ann := r1 2 [1, 2, 3, 6] [3, 900000, 900001, 900002] [pf (inR .i64 (x1 + 1))] [0] (.loop Int (D83Zb1 x0 x1 x2) [] [] [] (D83Zb1 x0 x1 x2 (x1 + 1)) (A83Zb1 x0 x1 x2))
theorem ok_sort_insertionSort_func_Z (x0 : SrtZ) (x1 : Int) (x2 : Int) (hx : x0.l.length ≤ 1) (hab : x1 = 0 ∧ x2 = x0.l.length) : FnMT Try.prog 83 [.agg [.clo 62 [.vp 900001 0, .vp 900002 0], .fv], .int .i64 x1, .int .i64 x2] [.arr 1 x0.l.length (rowOf (cInt .i64) x0.l), .var [.ro false 6 x0.c0.people.length (rowOf (cPerson false) x0.c0.people), .ro false 4 x0.c0.unions.length (rowOf (cUnion false) x0.c0.unions)], .var [.own 900000]] (C83Z x0 x1 x2 (insSortZ x0 x1 x2)) := by
  have aux : ∀ R, insSortZ x0 x1 x2 = R → slim (C83Z x0 x1 x2 R) (A83Z x0 x1 x2) [] := by
    intro R hR
    refine rg ⟨by ( intros; simp only [inR]; omega), trivial⟩ ?_
    revert hR; refine lW (fun v => x1 + 1 ≤ v) (fun v => 0) (by (intros; omega)) (Nat.lt_succ_self _) rfl fun m1 v1 F1 hI1 hM1 hR hK1 => ?_
    refine rg trivial ?_
    refine ⟨fun hq => absurd hq (by simp only [decide_eq_true_eq, decide_eq_false_iff_not, Bool.not_eq_true, Bool.not_eq_false]; omega), fun hc1 => ?_⟩
    exact congrArg (C83Z x0 x1 x2) hR
  exact FnM.go 35 Try.func83 (by kernel_rfl) (by kernel_rfl) (A83Z x0 x1 x2) (by kernel_rfl) (aux _ rfl)
def k83Z (d : Nat) (ids : List Nat) (x0 : SrtZ) (x1 : Int) (x2 : Int) : Cl := (hresM d ids (C83Z x0 x1 x2 (insSortZ x0 x1 x2)), k2 (ok_sort_insertionSort_func_Z x0 x1 x2))
def C71Z (x0 : SrtZ) (x1 : Int) (x2 : Int) (x3 : Int) (R : (List Int)) : LV × List (Nat × BC) := (.tup [], [(900000, .arr 1 R.length (rowOf (cInt .i64) R)), (900001, .var [.ro false 6 x0.c0.people.length (rowOf (cPerson false) x0.c0.people), .ro false 4 x0.c0.unions.length (rowOf (cUnion false) x0.c0.unions)]), (900002, .var [.own 900000])])
def pdqZ (x0 : SrtZ) (x1 : Int) (x2 : Int) (x3 : Int) : (List Int) := loopW (fun (v1 : Int × Int × Int × Bool × Bool) next => insSortZ x0 v1.1 v1.2.1) (0 + 1) (x1, x2, x3, true, true)
def D71Zb1 (x0 : SrtZ) (x1 : Int) (x2 : Int) (x3 : Int) (v1 : Int × Int × Int × Bool × Bool) : Dl := ⟨[(1, .int .i64 v1.1), (2, .int .i64 v1.2.1), (3, .int .i64 v1.2.2.1), (8, .bool v1.2.2.2.1), (9, .bool v1.2.2.2.2)], []⟩
def A71Zb1 (x0 : SrtZ) (x1 : Int) (x2 : Int) (x3 : Int) (v1 : Int × Int × Int × Bool × Bool) : Ann := r1 1 [1, 2, 3, 4, 8, 9, 10] [4, 900000, 900001, 900002] [pf (inR .i64 (v1.2.1 - v1.1))] [0] (r0 1 [1, 2, 3, 4, 8, 9, 10, 23] [4, 900000, 900001, 900002] (cn (decide ((v1.2.1 - v1.1) ≤ 12)) (.reg 1 [] [(3, k83Z 27 [900000, 900001, 900002] x0 v1.1 v1.2.1)] [1, 2, 3, 4, 8, 9, 10] [4, 900000, 900001, 900002] [] [] [] [0] (rt [(900000, some 900000), (900001, some 900001), (900002, some 900002)] (C71Z x0 x1 x2 x3 (insSortZ x0 v1.1 v1.2.1)))) (.next 99 [] ⟨[], []⟩)))
def A71Z (x0 : SrtZ) (x1 : Int) (x2 : Int) (x3 : Int) : Ann := r0 3 [1, 2, 3, 4, 8, 9] [4, 900000, 900001, 900002] (.loop (Int × Int × Int × Bool × Bool) (D71Zb1 x0 x1 x2 x3) [] [] [] (D71Zb1 x0 x1 x2 x3 (x1, x2, x3, true, true)) (A71Zb1 x0 x1 x2 x3))
theorem ok_sort_pdqsort_func_Z (x0 : SrtZ) (x1 : Int) (x2 : Int) (x3 : Int) (hx : x0.l.length ≤ 1) (hab : x1 = 0 ∧ x2 = x0.l.length) : FnMT Try.prog 71 [.agg [.clo 62 [.vp 900001 0, .vp 900002 0], .fv], .int .i64 x1, .int .i64 x2, .int .i64 x3] [.arr 1 x0.l.length (rowOf (cInt .i64) x0.l), .var [.ro false 6 x0.c0.people.length (rowOf (cPerson false) x0.c0.people), .ro false 4 x0.c0.unions.length (rowOf (cUnion false) x0.c0.unions)], .var [.own 900000]] (C71Z x0 x1 x2 x3 (pdqZ x0 x1 x2 x3)) := by
  have aux : ∀ R, pdqZ x0 x1 x2 x3 = R → slim (C71Z x0 x1 x2 x3 R) (A71Z x0 x1 x2 x3) [] := by
    intro R hR
    refine rg trivial ?_
    revert hR; refine lW (fun v => v.1 = x1 ∧ v.2.1 = x2) (fun v => 0) (by trivial) (Nat.lt_succ_self _) rfl fun m1 v1 F1 hI1 hM1 hR hK1 => ?_
    refine rg ⟨by ( intros; simp only [inR]; omega), trivial⟩ ?_
    refine rg trivial ?_
    refine ⟨fun hc1 => ?_, fun hq => absurd hq (by simp only [decide_eq_true_eq, decide_eq_false_iff_not, Bool.not_eq_true, Bool.not_eq_false]; omega)⟩
    refine rg ⟨⟨by trivial, by (intros; omega)⟩, trivial⟩ ?_
    exact congrArg (C71Z x0 x1 x2 x3) hR
  exact FnM.go 130 Try.func71 (by kernel_rfl) (by kernel_rfl) (A71Z x0 x1 x2 x3) (by kernel_rfl) (aux _ rfl)
def k71Z (d : Nat) (ids : List Nat) (x0 : SrtZ) (x1 : Int) (x2 : Int) (x3 : Int) : Cl := (hresM d ids (C71Z x0 x1 x2 x3 (pdqZ x0 x1 x2 x3)), k2 (ok_sort_pdqsort_func_Z x0 x1 x2 x3))
noncomputable def kvoZ (d : Nat) (ids : List Nat) (l : List Int) : Cl := (.resM d ids [(900000, .arr 1 l.length (rowOf (cInt .i64) l)), (0, .var [.own 900000])] (.agg [.k Try.prog.globals.size 47, .vp 0 0, .int .u64 151]), k0 (P := FnX Try.prog 67 [.ifc 47 (.own 900000)] [.arr 1 l.length (rowOf (cInt .i64) l)] (.agg [.k Try.prog.globals.size 47, .vp 0 0, .int .u64 151]) [(900000, .arr 1 l.length (rowOf (cInt .i64) l)), (0, .var [.own 900000])]) (FnX.valueOf (t := 47) (e := 3) (ti := Try.t47) Try.func67 (by kernel_rfl) (by kernel_rfl) (by kernel_rfl) (by rfl) (by kernel_rfl) (by kernel_rfl)))
noncomputable def klnZ (d : Nat) (ids : List Nat) (l : List Int) : Cl := (.resM d ids (enumB [.arr 1 l.length (rowOf (cInt .i64) l), .var [.own 900000]] 900000) (.int .i64 l.length), k0 (P := FnX Try.prog 69 [.agg [.k Try.prog.globals.size 47, .vp 900001 0, .int .u64 151]] [.arr 1 l.length (rowOf (cInt .i64) l), .var [.own 900000]] (.int .i64 l.length) (enumB [.arr 1 l.length (rowOf (cInt .i64) l), .var [.own 900000]] 900000)) (FnX.valLen (t := 47) (e := 3) (ti := Try.t47) Try.func69 (by kernel_rfl) (by kernel_rfl) (by kernel_rfl) (by rfl) (by kernel_rfl) (by kernel_rfl) (by kernel_rfl) (by kernel_rfl)))
noncomputable def kspZ (d : Nat) (ids : List Nat) (l : List Int) : Cl := (.resM d ids (enumB [.arr 1 l.length (rowOf (cInt .i64) l)] 900000) .fv, k1 (P := FnX Try.prog 68 [.ifc 47 (.own 900000)] [.arr 1 l.length (rowOf (cInt .i64) l)] .fv (enumB [.arr 1 l.length (rowOf (cInt .i64) l)] 900000)) fun hn => FnX.swapper0 (t := 47) (e := 3) (ti := Try.t47) (ie := Try.t3) (ke := 2) (g0 := 72) (g1 := 73) hn Try.func68 (by kernel_rfl) (by kernel_rfl) (by kernel_rfl) (by rfl) (by kernel_rfl) (by kernel_rfl) (by kernel_rfl) (fun w => by kernel_rfl) (by kernel_rfl) (by kernel_rfl))

def C61Z (x0 : SrtZ) (x1 : Unit) (R : (List Int)) : LV × List (Nat × BC) := (.tup [], [(900000, .arr 1 R.length (rowOf (cInt .i64) R)), (900001, .var [.ro false 6 x0.c0.people.length (rowOf (cPerson false) x0.c0.people), .ro false 4 x0.c0.unions.length (rowOf (cUnion false) x0.c0.unions)]), (900002, .var [.own 900000])])
def sliceZ (x0 : SrtZ) (x1 : Unit) : (List Int) := pdqZ x0 0 (x0.l.length : Int) (bitsLen (x0.l.length : Int))
noncomputable def A61Z (x0 : SrtZ) (x1 : Unit) : Ann := .reg 4 [] [(1, kvoZ 9 [900000] x0.l), (1001, kspZ 11 [900000] x0.l), (2001, klnZ 13 [900000, 1009] x0.l), (3002, k70 (x0.l.length : Int))] [1, 5, 6, 7] [900000, 900001, 900002] [] [pf (inR .u64 (x0.l.length : Int))] [] [4, 8, 12, 0, 16] (.reg 1 [] [(5, k71Z 22 [900000, 900001, 900002] x0 0 (x0.l.length : Int) (bitsLen (x0.l.length : Int)))] [] [900000, 900001, 900002] [] [] [] [0] (rt [(900000, some 900000), (900001, some 900001), (900002, some 900002)] (C61Z x0 x1 (pdqZ x0 0 (x0.l.length : Int) (bitsLen (x0.l.length : Int))))))
theorem ok_sort_Slice_Z (x0 : SrtZ) (x1 : Unit) (hx : x0.l.length ≤ 1) : FnMT Try.prog 61 [.ifc 47 (.own 900000), .clo 62 [.vp 900001 0, .vp 900002 0]] [.arr 1 x0.l.length (rowOf (cInt .i64) x0.l), .var [.ro false 6 x0.c0.people.length (rowOf (cPerson false) x0.c0.people), .ro false 4 x0.c0.unions.length (rowOf (cUnion false) x0.c0.unions)], .var [.own 900000]] (C61Z x0 x1 (sliceZ x0 x1)) := by
  have aux : ∀ R, sliceZ x0 x1 = R → slim (C61Z x0 x1 R) (A61Z x0 x1) [] := by
    intro R hR
    refine rg ⟨by ( intros; simp only [inR]; omega), trivial, by trivial, trivial, by (intros; omega), trivial⟩ ?_
    refine rg ⟨⟨by trivial, by trivial⟩, trivial⟩ ?_
    exact congrArg (C61Z x0 x1) hR
  exact FnM.go 23 Try.func61 (by kernel_rfl) (by kernel_rfl) (A61Z x0 x1) (by kernel_rfl) (aux _ rfl)
def k61Z (d : Nat) (ids : List Nat) (x0 : SrtZ) (x1 : Unit) : Cl := (hresM d ids (C61Z x0 x1 (sliceZ x0 x1)), k1 (ok_sort_Slice_Z x0 x1))
end Go.Proofs.Ytmefknjcgdbceaa
