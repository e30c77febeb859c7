import Derived.Test.YtanpfncfphpddabV41
set_option maxHeartbeats 4000000
set_option linter.unusedSimpArgs false
set_option linter.unusedVariables false
namespace Go.Proofs.Ytanpfncfphpddab
open Go Go.Lite Go.Proofs
theorem l01Below_ok {c : l01Cur} (h : CurOk c) {n : Int} (hn : n ≤ 256) : (0 ≤ (l01Below c n).1 ∧ (l01Below c n).1 ≤ 255 ∧ (0 < n → (l01Below c n).1 < n)) ∧ CurOk ⟨c.b, (l01Below c n).2.1, (l01Below c n).2.2⟩ := by
  unfold l01Below
  refine cond_both (p := fun (r : Int × Int × Int) => (0 ≤ r.1 ∧ r.1 ≤ 255 ∧ (0 < n → r.1 < n)) ∧ CurOk ⟨c.b, r.2.1, r.2.2⟩) (fun c1 => ⟨⟨by simp, by simp, fun h => h⟩, h⟩) (fun c1 => ?_)
  have c1 := of_decide_eq_false c1
  refine cond_both (p := fun (r : Int × Int × Int) => (0 ≤ r.1 ∧ r.1 ≤ 255 ∧ (0 < n → r.1 < n)) ∧ CurOk ⟨c.b, r.2.1, r.2.2⟩) (fun c2 => ⟨?_, (l01Byte_ok h).2⟩) (fun c2 => absurd (of_decide_eq_false c2) (by omega))
  have h1 := (l01Byte_ok h).1
  have e := Int.tmod_eq_emod_of_nonneg (a := (l01Byte c).1) (b := n) h1.1
  have h2 := Int.emod_nonneg (l01Byte c).1 (show n ≠ 0 by omega)
  have h3 := Int.emod_lt_of_pos (l01Byte c).1 (show 0 < n by omega)
  simp only [e]
  omega
def C87 (x0 : l01Cur) (x1 : Int) (R : Bool × Int × Int) : LV × List (Nat × BC) := (.bool R.1, [(900000, .var [.ro false 1 x0.b.length (rowOf (cInt .u8) x0.b), .int .i64 R.2.1, .int .i64 R.2.2])])
def l01Once (x0 : l01Cur) (x1 : Int) : Bool × Int × Int := (decide (((l01Below x0 x1).1) = 0), (l01Below x0 x1).2.1, (l01Below x0 x1).2.2)
def A87 (x0 : l01Cur) (x1 : Int) : Ann := .reg 2 [] [(1002, k85 7 [900000] x0 x1)] [4] [900000] [] [] [] [0] (rt [(900000, some 900000)] (C87 x0 x1 (decide (((l01Below x0 x1).1) = 0), (l01Below x0 x1).2.1, (l01Below x0 x1).2.2)))
theorem ok_spec_l01Once (x0 : l01Cur) (x1 : Int) (hc : CurOk x0) (hn : x1 ≤ 256) : FnMT Try.prog 87 [.vp 900000 0, .int .i64 x1] [.var [.ro false 1 x0.b.length (rowOf (cInt .u8) x0.b), .int .i64 x0.i, .int .i64 x0.h]] (C87 x0 x1 (l01Once x0 x1)) := by
  have aux : ∀ R, l01Once x0 x1 = R → slim (C87 x0 x1 R) (A87 x0 x1) [] := by
    intro R hR
    refine rg ⟨⟨by trivial, by trivial⟩, trivial⟩ ?_
    exact congrArg (C87 x0 x1) hR
  exact FnM.go 9 Try.func87 (by kernel_rfl) (by kernel_rfl) (A87 x0 x1) (by kernel_rfl) (aux _ rfl)
def k87 (d : Nat) (ids : List Nat) (x0 : l01Cur) (x1 : Int) : Cl := (hresM d ids (C87 x0 x1 (l01Once x0 x1)), k2 (ok_spec_l01Once x0 x1))
def C84 (x0 : l01Cur) (x1 : List Int) (R : Int × Int × Int) : LV × List (Nat × BC) := (.int .i64 R.1, [(900000, .var [.ro false 1 x0.b.length (rowOf (cInt .u8) x0.b), .int .i64 R.2.1, .int .i64 R.2.2])])
def l01Int (x0 : l01Cur) (x1 : List Int) : Int × Int × Int := ((x1.getD (((l01Below x0 ((x1.length : Nat) : Int)).1).toNat) default), (l01Below x0 ((x1.length : Nat) : Int)).2.1, (l01Below x0 ((x1.length : Nat) : Int)).2.2)
def A84 (x0 : l01Cur) (x1 : List Int) : Ann := .reg 2 [] [(1004, k85 9 [900000] x0 ((x1.length : Nat) : Int))] [4] [900000, 900001] [] [pf (0 ≤ ((l01Below x0 ((x1.length : Nat) : Int)).1 : Int) ∧ ((l01Below x0 ((x1.length : Nat) : Int)).1 : Int) < ((x1.length : Nat) : Int))] [] [4, 0] (rt [(900000, some 900000)] (C84 x0 x1 ((x1.getD (((l01Below x0 ((x1.length : Nat) : Int)).1).toNat) default), (l01Below x0 ((x1.length : Nat) : Int)).2.1, (l01Below x0 ((x1.length : Nat) : Int)).2.2)))
theorem ok_spec_l01Int (x0 : l01Cur) (x1 : List Int) (hc : CurOk x0) (hn : 0 < x1.length ∧ x1.length ≤ 256) : FnMT Try.prog 84 [.vp 900000 0, .own 900001] [.var [.ro false 1 x0.b.length (rowOf (cInt .u8) x0.b), .int .i64 x0.i, .int .i64 x0.h], .arr 1 x1.length (rowOf (cInt .i64) x1)] (C84 x0 x1 (l01Int x0 x1)) := by
  have aux : ∀ R, l01Int x0 x1 = R → slim (C84 x0 x1 R) (A84 x0 x1) [] := by
    intro R hR
    refine rg ⟨by (have h9 := l01Below_ok hc (n := ((x1.length : Nat) : Int)) (by omega); omega), ⟨by trivial, by (intros; omega)⟩, trivial⟩ ?_
    exact congrArg (C84 x0 x1) hR
  exact FnM.go 12 Try.func84 (by kernel_rfl) (by kernel_rfl) (A84 x0 x1) (by kernel_rfl) (aux _ rfl)
def k84 (d : Nat) (ids : List Nat) (x0 : l01Cur) (x1 : List Int) : Cl := (hresM d ids (C84 x0 x1 (l01Int x0 x1)), k2 (ok_spec_l01Int x0 x1))
def C86 (R : (List UInt8)) : LV × List (Nat × BC) := (.str R, [])
def l1Called (x0 : Int) : (List UInt8) := List.map Lite.byteOf ([((([97, 98, 99, 100, 101, 102, 103, 104, 105, 106, 107, 108, 109, 110, 111, 112, 113, 114, 115, 116, 117, 118, 119, 120, 121, 122] : List UInt8).getD ((x0.tmod 26).toNat) 0).toNat : Int), ((([97, 101, 105, 111, 117] : List UInt8).getD (((x0.tdiv 26).tmod 5).toNat) 0).toNat : Int)] : List Int)
def A86 (x0 : Int) : Ann := .reg 2 [(1008, .ints ([((([97, 98, 99, 100, 101, 102, 103, 104, 105, 106, 107, 108, 109, 110, 111, 112, 113, 114, 115, 116, 117, 118, 119, 120, 121, 122] : List UInt8).getD ((x0.tmod 26).toNat) 0).toNat : Int), ((([97, 101, 105, 111, 117] : List UInt8).getD (((x0.tdiv 26).tmod 5).toNat) 0).toNat : Int)] : List Int))] [(1007, bsC 10 (cInt .u8) ([((([97, 98, 99, 100, 101, 102, 103, 104, 105, 106, 107, 108, 109, 110, 111, 112, 113, 114, 115, 116, 117, 118, 119, 120, 121, 122] : List UInt8).getD ((x0.tmod 26).toNat) 0).toNat : Int), ((([97, 101, 105, 111, 117] : List UInt8).getD (((x0.tdiv 26).tmod 5).toNat) 0).toNat : Int)] : List Int))] [2] [] [] [pf ((26 : Int) ≠ 0), pf (0 ≤ (x0.tmod 26 : Int) ∧ (x0.tmod 26 : Int) < ((([97, 98, 99, 100, 101, 102, 103, 104, 105, 106, 107, 108, 109, 110, 111, 112, 113, 114, 115, 116, 117, 118, 119, 120, 121, 122] : List UInt8).length : Nat) : Int)), pf (inR .i64 (x0.tdiv 26)), pf ((5 : Int) ≠ 0), pf (0 ≤ ((x0.tdiv 26).tmod 5 : Int) ∧ ((x0.tdiv 26).tmod 5 : Int) < ((([97, 101, 105, 111, 117] : List UInt8).length : Nat) : Int))] [zf (P := 2 = ([((([97, 98, 99, 100, 101, 102, 103, 104, 105, 106, 107, 108, 109, 110, 111, 112, 113, 114, 115, 116, 117, 118, 119, 120, 121, 122] : List UInt8).getD ((x0.tmod 26).toNat) 0).toNat : Int), ((([97, 101, 105, 111, 117] : List UInt8).getD (((x0.tdiv 26).tmod 5).toNat) 0).toNat : Int)] : List Int).length ∧ ∀ k, k < 2 → (rowOf (cInt .u8) [((([97, 98, 99, 100, 101, 102, 103, 104, 105, 106, 107, 108, 109, 110, 111, 112, 113, 114, 115, 116, 117, 118, 119, 120, 121, 122] : List UInt8).getD ((x0.tmod 26).toNat) 0).toNat : Int), ((([97, 101, 105, 111, 117] : List UInt8).getD (((x0.tdiv 26).tmod 5).toNat) 0).toNat : Int)]) k = [.int .u8 (([((([97, 98, 99, 100, 101, 102, 103, 104, 105, 106, 107, 108, 109, 110, 111, 112, 113, 114, 115, 116, 117, 118, 119, 120, 121, 122] : List UInt8).getD ((x0.tmod 26).toNat) 0).toNat : Int), ((([97, 101, 105, 111, 117] : List UInt8).getD (((x0.tdiv 26).tmod 5).toNat) 0).toNat : Int)] : List Int).getD k default)]) (⟨by first | rfl | simp, fun _ _ => rfl⟩)] [0, 4, 0, 8, 12, 16, 20, 3] (rt [] (C86 (List.map Lite.byteOf ([((([97, 98, 99, 100, 101, 102, 103, 104, 105, 106, 107, 108, 109, 110, 111, 112, 113, 114, 115, 116, 117, 118, 119, 120, 121, 122] : List UInt8).getD ((x0.tmod 26).toNat) 0).toNat : Int), ((([97, 101, 105, 111, 117] : List UInt8).getD (((x0.tdiv 26).tmod 5).toNat) 0).toNat : Int)] : List Int))))
theorem ok_spec_l1Called (x0 : Int) (hi : 0 ≤ x0 ∧ x0 ≤ 1000) : FnT Try.prog 86 [.int .i64 x0] (C86 (l1Called x0)) := by
  have aux : ∀ R, l1Called x0 = R → slim (C86 R) (A86 x0) [] := by
    intro R hR
    refine rg ⟨by trivial, by (have e1 := Int.tmod_eq_emod_of_nonneg (a := x0) (b := 26) (by omega); have e2 := Int.tdiv_eq_ediv_of_nonneg (a := x0) (b := 26) (by omega); have e3 := Int.tmod_eq_emod_of_nonneg (a := x0.tdiv 26) (b := 5) (by omega); (try simp only [List.length_cons, List.length_nil]); omega), by ((try clear hR); intros; (try simp only [decide_eq_true_eq, decide_eq_false_iff_not, Bool.or_eq_true, Bool.and_eq_true, or_f_iff, not_f_iff, not_t_iff, Bool.not_eq_true', inR] at *); (repeat' apply And.intro) <;> (have e1 := Int.tmod_eq_emod_of_nonneg (a := x0) (b := 26) (by omega); have e2 := Int.tdiv_eq_ediv_of_nonneg (a := x0) (b := 26) (by omega); have e3 := Int.tmod_eq_emod_of_nonneg (a := x0.tdiv 26) (b := 5) (by omega); (try simp only [List.length_cons, List.length_nil]); omega)), by trivial, by (have e1 := Int.tmod_eq_emod_of_nonneg (a := x0) (b := 26) (by omega); have e2 := Int.tdiv_eq_ediv_of_nonneg (a := x0) (b := 26) (by omega); have e3 := Int.tmod_eq_emod_of_nonneg (a := x0.tdiv 26) (b := 5) (by omega); (try simp only [List.length_cons, List.length_nil]); omega), trivial, trivial⟩ ?_
    exact congrArg C86 hR
  exact Fn.go 12 Try.func86 (by kernel_rfl) (by kernel_rfl) (by simp [C86, Frs, FrsL]) (A86 x0) (by kernel_rfl) (aux _ rfl)
def k86 (x0 : Int) : Cl := (hres (C86 (l1Called x0)), k1 (ok_spec_l1Called x0))
theorem l01Once_ok {c : l01Cur} (h : CurOk c) {n : Int} (hn : n ≤ 256) : CurOk ⟨c.b, (l01Once c n).2.1, (l01Once c n).2.2⟩ := by
  unfold l01Once
  exact (l01Below_ok h hn).2
theorem l01Int_ok {c : l01Cur} (h : CurOk c) {l : List Int} (hl : 0 < l.length ∧ l.length ≤ 256) : (l01Int c l).1 ∈ l ∧ CurOk ⟨c.b, (l01Int c l).2.1, (l01Int c l).2.2⟩ := by
  have h9 := l01Below_ok h (n := ((l.length : Nat) : Int)) (by omega)
  unfold l01Int
  exact ⟨getD_mem (by have := h9.1.2.2 (by omega); omega), h9.2⟩
end Go.Proofs.Ytanpfncfphpddab
