import Derived.Test.YtfbkeokpiihkaaaSB
set_option maxHeartbeats 4000000
set_option linter.unusedSimpArgs false
set_option linter.unusedVariables false
namespace Go.Proofs.Ytfbkeokpiihkaaa
open Go Go.Lite Go.Proofs
def C138 (R : Bool) : LV × List (Nat × BC) := (.bool R, [])
def implElder (x0 : Family) (x1 : Int) (x2 : Int) : Bool := (decide (((x0.people.getD x1.toNat default).born) < ((x0.people.getD x2.toNat default).born))) || ((decide (((x0.people.getD x1.toNat default).born) = ((x0.people.getD x2.toNat default).born))) && (decide (x1 < x2)))
def A138 (x0 : Family) (x1 : Int) (x2 : Int) : Ann := .reg 3 [] [] [6] [] [!(decide (((x0.people.getD x1.toNat default).born) < ((x0.people.getD x2.toNat default).born))), (!(decide (((x0.people.getD x1.toNat default).born) < ((x0.people.getD x2.toNat default).born)))) && (decide (((x0.people.getD x1.toNat default).born) = ((x0.people.getD x2.toNat default).born))), decide (((x0.people.getD x1.toNat default).born) < ((x0.people.getD x2.toNat default).born))] [pf (0 ≤ (x1 : Int) ∧ (x1 : Int) < ((x0.people.length : Nat) : Int)), pf (0 ≤ (x2 : Int) ∧ (x2 : Int) < ((x0.people.length : Nat) : Int)), gt (!(decide (((x0.people.getD x1.toNat default).born) < ((x0.people.getD x2.toNat default).born)))) (gt (decide (((x0.people.getD x1.toNat default).born) = ((x0.people.getD x2.toNat default).born))) (pf (((!(decide (((x0.people.getD x1.toNat default).born) < ((x0.people.getD x2.toNat default).born)))) && (decide (((x0.people.getD x1.toNat default).born) = ((x0.people.getD x2.toNat default).born)))) = true)))] [] [0, 4, 1, 1, 1, 5, 5, 1, 8, 10] (rt [] (C138 ((decide (((x0.people.getD x1.toNat default).born) < ((x0.people.getD x2.toNat default).born))) || ((decide (((x0.people.getD x1.toNat default).born) = ((x0.people.getD x2.toNat default).born))) && (decide (x1 < x2))))))
theorem ok_impl_isElder (x0 : Family) (x1 : Int) (x2 : Int) (h1 : 0 ≤ x1 ∧ x1 < x0.people.length) (h2 : 0 ≤ x2 ∧ x2 < x0.people.length) : FnT Try.prog 138 [.agg (cFamily false x0), .int .i64 x1, .int .i64 x2] (C138 (implElder x0 x1 x2)) := by
  have aux : ∀ R, implElder x0 x1 x2 = R → slim (C138 R) (A138 x0 x1 x2) [] := by
    intro R hR
    refine rg ⟨by trivial, by trivial, by ((try clear hR); intros; (try simp only [decide_eq_true_eq, decide_eq_false_iff_not, Bool.or_eq_true, Bool.and_eq_true, or_f_iff, not_f_iff, not_t_iff, Bool.not_eq_true', inR] at *); (repeat' apply And.intro) <;> (intros; omega)), trivial⟩ ?_
    exact congrArg C138 hR
  exact Fn.go 34 Try.func138 (by kernel_rfl) (by kernel_rfl) (by simp [C138, Frs, FrsL]) (A138 x0 x1 x2) (by kernel_rfl) (aux _ rfl)
def k138 (x0 : Family) (x1 : Int) (x2 : Int) : Cl := (hres (C138 (implElder x0 x1 x2)), k2 (ok_impl_isElder x0 x1 x2))
def OkL (f : Family) (l : List Int) : Prop := ∀ c ∈ l, 0 ≤ c ∧ c < f.people.length
theorem OkL.at {f : Family} {l : List Int} (h : OkL f l) {i : Int} (hi : 0 ≤ i ∧ i < l.length) : 0 ≤ l.getD i.toNat default ∧ l.getD i.toNat default < f.people.length := by
  have e : l.getD i.toNat default = l[i.toNat]'(by omega) := by rw [List.getD_eq_getElem?_getD, List.getElem?_eq_getElem (by omega)]; rfl
  rw [e]
  exact h _ (List.getElem_mem _)
theorem OkL.sw {f : Family} {l l' : List Int} (h : OkL f l) {a b : Int} (hs : Sw a b l l') (hab : 0 ≤ a ∧ b ≤ l.length) : OkL f l' := fun c hc => h c ((hs.perm hab.1 hab.2).mem_iff.1 hc)

def C137 (R : Bool) : LV × List (Nat × BC) := (.bool R, [])
def chosenLess (x0 : Int) (x1 : Int) (x2 : Family) (x3 : List Int) : Bool := implElder x2 (x3.getD x0.toNat default) (x3.getD x1.toNat default)
def A137 (x0 : Int) (x1 : Int) (x2 : Family) (x3 : List Int) : Ann := .reg 2 [] [(1009, k138 x2 (x3.getD x0.toNat default) (x3.getD x1.toNat default))] [6] [] [] [pf (0 ≤ (x0 : Int) ∧ (x0 : Int) < ((x3.length : Nat) : Int)), pf (0 ≤ (x1 : Int) ∧ (x1 : Int) < ((x3.length : Nat) : Int))] [] [0, 4, 8] (rt [] (C137 (implElder x2 (x3.getD x0.toNat default) (x3.getD x1.toNat default))))
structure SrtE where
  c0 : Family
  l : List Int
  deriving Inhabited
def kswE (d : Nat) (ids : List Nat) (l : List Int) (i j : Int) : Cl := (.resM d ids [(900000, .arr 1 (swp l i j).length (rowOf (cInt .i64) (swp l i j)))] (.tup []), k2 (P := FnX Try.prog 112 [.int .i64 i, .int .i64 j, .own 900000, .k Try.prog.globals.size 3] [.arr 1 l.length (rowOf (cInt .i64) l)] (.tup []) [(900000, .arr 1 (swp l i j).length (rowOf (cInt .i64) (swp l i j)))])
  fun hi hj => FnX.swap (b := true) (ag := false) Try.func112 (by kernel_rfl) (by kernel_rfl) (by kernel_rfl) (by rfl) (by kernel_rfl) (by kernel_rfl) (by kernel_rfl) (by intro _; rfl) hi hj)
def OkE (x : SrtE) : Prop := OkL x.c0 x.l

theorem ok_impl_chosen_1 (x0 : Int) (x1 : Int) (x2 : Family) (x3 : List Int) (h0 : 0 ≤ x0 ∧ x0 < x3.length) (h1 : 0 ≤ x1 ∧ x1 < x3.length) (hok : OkL x2 x3) : FnT Try.prog 137 [.int .i64 x0, .int .i64 x1, .ep [.ro false 6 x2.people.length (rowOf (cPerson false) x2.people), .ro false 4 x2.unions.length (rowOf (cUnion false) x2.unions)] 0, .ep [.ro false 1 x3.length (rowOf (cInt .i64) x3)] 0] (C137 (chosenLess x0 x1 x2 x3)) := by
  have aux : ∀ R, chosenLess x0 x1 x2 x3 = R → slim (C137 R) (A137 x0 x1 x2 x3) [] := by
    intro R hR
    refine rg ⟨by trivial, by trivial, ⟨by (have h8 := hok.at h0; have h9 := hok.at h1; omega), by (have h8 := hok.at h0; have h9 := hok.at h1; omega)⟩, trivial⟩ ?_
    exact congrArg C137 hR
  exact Fn.go 17 Try.func137 (by kernel_rfl) (by kernel_rfl) (by simp [C137, Frs, FrsL]) (A137 x0 x1 x2 x3) (by kernel_rfl) (aux _ rfl)
def k137 (x0 : Int) (x1 : Int) (x2 : Family) (x3 : List Int) : Cl := (hres (C137 (chosenLess x0 x1 x2 x3)), k3 (ok_impl_chosen_1 x0 x1 x2 x3))
def C119E (x0 : SrtE) (x1 : Int) (x2 : Int) (R : (List Int)) : LV × List (Nat × BC) := (.tup [], [(900000, .arr 1 R.length (rowOf (cInt .i64) R)), (900001, .var [.ro false 6 x0.c0.people.length (rowOf (cPerson false) x0.c0.people), .ro false 4 x0.c0.unions.length (rowOf (cUnion false) x0.c0.unions)]), (900002, .var [.own 900000])])
def insSortE (x0 : SrtE) (x1 : Int) (x2 : Int) : (List Int) := loopW (fun (v1 : Int × (List Int)) nx1 => bif (decide (v1.1 < x2)) then (loopW (fun (v2 : Int × (List Int)) next => bif ((decide (x1 < v2.1)) && (chosenLess v2.1 (v2.1 - 1) x0.c0 v2.2)) then (next (v2.1 - 1, (swp v2.2 v2.1 (v2.1 - 1)))) else (nx1 (v1.1 + 1, v2.2))) ((v1.1).toNat + 1) (v1.1, v1.2)) else v1.2) ((x2 - (x1 + 1)).toNat + 1) (x1 + 1, x0.l)
def D119Eb1 (x0 : SrtE) (x1 : Int) (x2 : Int) (v1 : Int × (List Int)) : Dl := ⟨[(6, .int .i64 v1.1)], [(900000, .arr 1 v1.2.length (rowOf (cInt .i64) v1.2))]⟩
def D119Eb2 (x0 : SrtE) (x1 : Int) (x2 : Int) (v1 : Int × (List Int)) (v2 : Int × (List Int)) : Dl := ⟨[(7, .int .i64 v2.1)], [(900000, .arr 1 v2.2.length (rowOf (cInt .i64) v2.2))]⟩
def A119Eb2 (x0 : SrtE) (x1 : Int) (x2 : Int) (v1 : Int × (List Int)) (v2 : Int × (List Int)) : Ann := .reg 1 [] [(9, cg (decide (x1 < v2.1)) (k137 v2.1 (v2.1 - 1) x0.c0 v2.2))] [1, 2, 3, 6, 7, 26] [3, 900000, 900001, 900002] [decide (x1 < v2.1)] [gt (decide (x1 < v2.1)) (pf (inR .i64 (v2.1 - 1)))] [] [1, 1, 0, 1, 1, 1, 4, 1] (cn ((decide (x1 < v2.1)) && (chosenLess v2.1 (v2.1 - 1) x0.c0 v2.2)) (.reg 1 [] [(5, kswE 504 [900000] v2.2 v2.1 (v2.1 - 1))] [1, 2, 3, 6, 7] [3, 900000, 900001, 900002] [] [pf (inR .i64 (v2.1 - 1))] [] [0, 4] (r1 1 [1, 2, 3, 6, 7] [3, 900000, 900001, 900002] [pf (inR .i64 (v2.1 - 1))] [0] (.next 0 [(900000, some 900000)] (D119Eb2 x0 x1 x2 v1 (v2.1 - 1, (swp v2.2 v2.1 (v2.1 - 1))))))) (r1 1 [1, 2, 3, 6] [3, 900000, 900001, 900002] [pf (inR .i64 (v1.1 + 1))] [0] (.next 1 [(900000, some 900000)] (D119Eb1 x0 x1 x2 (v1.1 + 1, v2.2)))))
def A119Eb1 (x0 : SrtE) (x1 : Int) (x2 : Int) (v1 : Int × (List Int)) : Ann := r0 1 [1, 2, 3, 6, 12] [3, 900000, 900001, 900002] (cn (decide (v1.1 < x2)) (r0 1 [1, 2, 3, 6, 7] [3, 900000, 900001, 900002] (.loop (Int × (List Int)) (D119Eb2 x0 x1 x2 v1) [] [] [(900000, some 900000)] (D119Eb2 x0 x1 x2 v1 (v1.1, v1.2)) (A119Eb2 x0 x1 x2 v1))) (rt [(900000, some 900000), (900001, some 900001), (900002, some 900002)] (C119E x0 x1 x2 v1.2)))
def A119E (x0 : SrtE) (x1 : Int) (x2 : Int) : Ann := r1 2 [1, 2, 3, 6] [3, 900000, 900001, 900002] [pf (inR .i64 (x1 + 1))] [0] (.loop (Int × (List Int)) (D119Eb1 x0 x1 x2) [] [] [(900000, some 900000)] (D119Eb1 x0 x1 x2 (x1 + 1, x0.l)) (A119Eb1 x0 x1 x2))
theorem insSortE_sw (x0 : SrtE) (x1 x2 : Int) (h : 0 ≤ x1 ∧ x1 ≤ x2) : Sw x1 x2 x0.l (insSortE x0 x1 x2) := by
  unfold insSortE
  refine loopW_to (fun v => x1 + 1 ≤ v.1 ∧ Sw x1 x2 x0.l v.2) (fun v => (x2 - v.1).toNat) (fun l => Sw x1 x2 x0.l l) (fun v next hv hn => ?_) _ _ (by dsimp only; omega) ⟨by simp, .refl⟩
  cases hc : decide (v.1 < x2) with
  | false => exact hv.2
  | true =>
    have hc := of_decide_eq_true hc
    refine loopW_to (fun w => (x1 ≤ w.1 ∧ w.1 ≤ v.1) ∧ Sw x1 x2 x0.l w.2) (fun w => w.1.toNat) (fun l => Sw x1 x2 x0.l l) (fun w next2 hw hn2 => ?_) _ _ (by dsimp only; omega) ⟨by dsimp only; omega, hv.2⟩
    cases hd : decide (x1 < w.1) && chosenLess w.1 (w.1 - 1) x0.c0 w.2 with
    | false => exact hn _ ⟨by dsimp only; omega, hw.2⟩ (by dsimp only; omega)
    | true =>
      simp only [Bool.and_eq_true, decide_eq_true_eq] at hd
      exact hn2 _ ⟨by dsimp only; omega, .step hw.2 _ _ (by omega) (by omega)⟩ (by dsimp only; omega)

theorem ok_sort_insertionSort_func_E (x0 : SrtE) (x1 : Int) (x2 : Int) (hx : x0.l.length ≤ 255) (hok : OkE x0) (hab : 0 ≤ x1 ∧ x1 ≤ x2 ∧ x2 ≤ x0.l.length) : FnMT Try.prog 119 [.agg [.clo 137 [.vp 900001 0, .vp 900002 0], .clo 112 [.own 900000, .k Try.prog.globals.size 3]], .int .i64 x1, .int .i64 x2] [.arr 1 x0.l.length (rowOf (cInt .i64) x0.l), .var [.ro false 6 x0.c0.people.length (rowOf (cPerson false) x0.c0.people), .ro false 4 x0.c0.unions.length (rowOf (cUnion false) x0.c0.unions)], .var [.own 900000]] (C119E x0 x1 x2 (insSortE x0 x1 x2)) := by
  have aux : ∀ R, insSortE x0 x1 x2 = R → slim (C119E x0 x1 x2 R) (A119E x0 x1 x2) [] := by
    intro R hR
    refine rg ⟨by ( intros; simp only [inR]; omega), trivial⟩ ?_
    revert hR; refine lW (fun v => x1 + 1 ≤ v.1 ∧ (Sw x1 x2 x0.l v.2 ∧ v.2.length = x0.l.length)) (fun v => (x2 - (v.1)).toNat) (by (((try clear hR); (try clear hK1); (try clear hK2); intros; (try simp only [w1, w2, w3, w4, w5, w6, swp_len, inR, IntKind.bits] at *)); refine ⟨by omega, ?_, trivial⟩; ((repeat first | refine Sw.step ?_ _ _ (by omega) (by omega)) <;> first | exact hI2.2.1 | exact hI1.2.1 | exact Sw.refl | exact hI2.2.1.mono (by omega) (by omega) | exact hI1.2.1.mono (by omega) (by omega)))) (Nat.lt_succ_self _) rfl fun m1 v1 F1 hI1 hM1 hR hK1 => ?_
    refine rg trivial ?_
    revert hR; refine cd (fun hc1 hR => ?_) fun hc1 hR => ?_
    ·
      refine rg trivial ?_
      revert hR; refine lW (fun v => (x1 ≤ v.1 ∧ v.1 ≤ v1.1) ∧ (Sw x1 x2 x0.l v.2 ∧ v.2.length = x0.l.length)) (fun v => (v.1).toNat) (by (((try clear hR); (try clear hK1); (try clear hK2); intros; (try simp only [w1, w2, w3, w4, w5, w6, swp_len, inR, IntKind.bits] at *)); refine ⟨by omega, Sw.both ?_⟩; ((repeat first | refine Sw.step ?_ _ _ (by omega) (by omega)) <;> first | exact hI2.2.1 | exact hI1.2.1 | exact Sw.refl | exact hI2.2.1.mono (by omega) (by omega) | exact hI1.2.1.mono (by omega) (by omega)))) (Nat.lt_succ_self _) rfl fun m2 v2 F2 hI2 hM2 hR hK2 => ?_
      refine rg ⟨by (((try clear hR); (try clear hK1); (try clear hK2); intros; (try simp only [w1, w2, w3, w4, w5, w6, swp_len, inR, IntKind.bits] at *)); omega), fun hg0 => ⟨by (((try clear hR); (try clear hK1); (try clear hK2); intros; (try simp only [w1, w2, w3, w4, w5, w6, swp_len, inR, IntKind.bits] at *)); omega), by (((try clear hR); (try clear hK1); (try clear hK2); intros; (try simp only [w1, w2, w3, w4, w5, w6, swp_len, inR, IntKind.bits] at *)); omega), by (exact OkL.sw (a := 0) (b := x0.l.length) hok (by ((try clear hR); (try clear hK1); (try clear hK2); intros; (try simp only [w1, w2, w3, w4, w5, w6, swp_len, inR, IntKind.bits] at *)); ((repeat first | refine Sw.step ?_ _ _ (by omega) (by omega)) <;> first | exact hI2.2.1 | exact hI1.2.1 | exact Sw.refl | exact hI2.2.1.mono (by omega) (by omega) | exact hI1.2.1.mono (by omega) (by omega))) ⟨by omega, by omega⟩)⟩, trivial⟩ ?_
      revert hR; refine cd (fun hc2 hR => ?_) fun hc2 hR => ?_
      ·
        refine rg ⟨by (((try clear hR); (try clear hK1); (try clear hK2); intros; (try simp only [w1, w2, w3, w4, w5, w6, swp_len, inR, IntKind.bits] at *)); omega), ⟨by (((try clear hR); (try clear hK1); (try clear hK2); intros; (try simp only [w1, w2, w3, w4, w5, w6, swp_len, inR, IntKind.bits] at *)); omega), by (((try clear hR); (try clear hK1); (try clear hK2); intros; (try simp only [w1, w2, w3, w4, w5, w6, swp_len, inR, IntKind.bits] at *)); omega)⟩, trivial⟩ ?_
        refine rg ⟨by (((try clear hR); (try clear hK1); (try clear hK2); intros; (try simp only [w1, w2, w3, w4, w5, w6, swp_len, inR, IntKind.bits] at *)); omega), trivial⟩ ?_
        exact hK2 (v2.1 - 1, (swp v2.2 v2.1 (v2.1 - 1))) (by (((try clear hR); (try clear hK1); (try clear hK2); intros; (try simp only [w1, w2, w3, w4, w5, w6, swp_len, inR, IntKind.bits] at *)); (repeat' apply And.intro) <;> first | omega | ((repeat first | refine Sw.step ?_ _ _ (by omega) (by omega)) <;> first | exact hI2.2.1 | exact hI1.2.1 | exact Sw.refl | exact hI2.2.1.mono (by omega) (by omega) | exact hI1.2.1.mono (by omega) (by omega)))) (by (((try clear hR); (try clear hK1); (try clear hK2); intros; (try simp only [w1, w2, w3, w4, w5, w6, swp_len, inR, IntKind.bits] at *)); omega)) hR
      ·
        refine rg ⟨by (((try clear hR); (try clear hK1); (try clear hK2); intros; (try simp only [w1, w2, w3, w4, w5, w6, swp_len, inR, IntKind.bits] at *)); omega), trivial⟩ ?_
        exact hK1 (v1.1 + 1, v2.2) (by (((try clear hR); (try clear hK1); (try clear hK2); intros; (try simp only [w1, w2, w3, w4, w5, w6, swp_len, inR, IntKind.bits] at *)); refine ⟨by omega, Sw.both ?_⟩; ((repeat first | refine Sw.step ?_ _ _ (by omega) (by omega)) <;> first | exact hI2.2.1 | exact hI1.2.1 | exact Sw.refl | exact hI2.2.1.mono (by omega) (by omega) | exact hI1.2.1.mono (by omega) (by omega)))) (by (((try clear hR); (try clear hK1); (try clear hK2); intros; (try simp only [w1, w2, w3, w4, w5, w6, swp_len, inR, IntKind.bits] at *)); omega)) hR
    ·
      exact congrArg (C119E x0 x1 x2) hR
  exact FnM.go 35 Try.func119 (by kernel_rfl) (by kernel_rfl) (A119E x0 x1 x2) (by kernel_rfl) (aux _ rfl)
def k119E (d : Nat) (ids : List Nat) (x0 : SrtE) (x1 : Int) (x2 : Int) : Cl := (hresM d ids (C119E x0 x1 x2 (insSortE x0 x1 x2)), k3 (ok_sort_insertionSort_func_E x0 x1 x2))
end Go.Proofs.Ytfbkeokpiihkaaa
