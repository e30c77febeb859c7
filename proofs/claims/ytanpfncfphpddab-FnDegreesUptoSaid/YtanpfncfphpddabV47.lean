import Derived.Test.YtanpfncfphpddabM46
set_option maxHeartbeats 4000000
set_option linter.unusedSimpArgs false
set_option linter.unusedVariables false
namespace Go.Proofs.Ytanpfncfphpddab
open Go Go.Lite Go.Proofs
def C52 (R : Family) : LV × List (Nat × BC) := (.agg [.own 0, .own 1], [(0, .arr 6 R.people.length (rowOf (cPerson true) R.people)), (1, .arr 4 R.unions.length (rowOf (cUnion true) R.unions))])
def makeFamily (x0 : List Int) (x1 : Int) : Family := ((l1Family (l01New x0) (Max.max 0 (Min.min x1 40))).1)
def A52 (x0 : List Int) (x1 : Int) : Ann := .reg 2 [] [(1001, k74 6 [] x0), (1005, k73 10 [1006] (l01New x0) (Max.max 0 (Min.min x1 40)))] [4] [4, 1010, 2010] [] [] [] [0, 4] (rt [(0, some 1010), (1, some 2010)] (C52 ((l1Family (l01New x0) (Max.max 0 (Min.min x1 40))).1)))
theorem ok_spec_MakeFamily (x0 : List Int) (x1 : Int) (hx : x0.length ≤ 1048576) (hb : ∀ y ∈ x0, 0 ≤ y ∧ y ≤ 255) : FnT Try.prog 52 [.ro false 1 x0.length (rowOf (cInt .u8) x0), .int .i64 x1] (C52 (makeFamily x0 x1)) := by
  have aux : ∀ R, makeFamily x0 x1 = R → slim (C52 R) (A52 x0 x1) [] := by
    intro R hR
    refine rg ⟨⟨by trivial, by trivial⟩, ⟨by (exact l01New_ok hb hx), by (intros; omega)⟩, trivial⟩ ?_
    exact congrArg C52 hR
  exact Fn.go 11 Try.func52 (by kernel_rfl) (by kernel_rfl) (by simp [C52, Frs, FrsL, FrsB, rowOf, cInt, cBool, cStr, cSl, FrsL_app, cPerson, cUnion, cFamily, cl01Cur]) (A52 x0 x1) (by kernel_rfl) (aux _ rfl)
def k52 (x0 : List Int) (x1 : Int) : Cl := (hres (C52 (makeFamily x0 x1)), k2 (ok_spec_MakeFamily x0 x1))
def C54 (R : Family) : LV × List (Nat × BC) := (.agg [.own 0, .own 1], [(0, .arr 6 R.people.length (rowOf (cPerson true) R.people)), (1, .arr 4 R.unions.length (rowOf (cUnion true) R.unions))])
def makeClose (x0 : List Int) : Family := ((l8Close (l01New x0)).1)
def A54 (x0 : List Int) : Ann := .reg 2 [] [(1001, k74 4 [] x0), (1002, k75 5 [1004] (l01New x0))] [2] [2, 1005, 2005] [] [] [] [0, 4] (rt [(0, some 1005), (1, some 2005)] (C54 ((l8Close (l01New x0)).1)))
theorem ok_spec_MakeClose (x0 : List Int) (hx : x0.length ≤ 1048576) (hb : ∀ y ∈ x0, 0 ≤ y ∧ y ≤ 255) : FnT Try.prog 54 [.ro false 1 x0.length (rowOf (cInt .u8) x0)] (C54 (makeClose x0)) := by
  have aux : ∀ R, makeClose x0 = R → slim (C54 R) (A54 x0) [] := by
    intro R hR
    refine rg ⟨⟨by trivial, by trivial⟩, by (exact l01New_ok hb hx), trivial⟩ ?_
    exact congrArg C54 hR
  exact Fn.go 6 Try.func54 (by kernel_rfl) (by kernel_rfl) (by simp [C54, Frs, FrsL, FrsB, rowOf, cInt, cBool, cStr, cSl, FrsL_app, cPerson, cUnion, cFamily, cl01Cur]) (A54 x0) (by kernel_rfl) (aux _ rfl)
def k54 (x0 : List Int) : Cl := (hres (C54 (makeClose x0)), k2 (ok_spec_MakeClose x0))
def C53 (R : Int) : LV × List (Nat × BC) := (.int .i64 R, [])
def at1 (x0 : List Int) (x1 : Int) : Int := bif (decide (x1 < ((x0.length : Nat) : Int))) then (x0.getD x1.toNat default) else (((x1 * 37) + (((x0.length : Nat) : Int) * 11)).tmod 256)
def A53 (x0 : List Int) (x1 : Int) : Ann := r0 1 [0, 1, 4] [] (r0 1 [0, 1, 4, 8] [] (cn (decide (x1 < ((x0.length : Nat) : Int))) (r1 1 [0, 1, 4] [] [pf (0 ≤ (x1 : Int) ∧ (x1 : Int) < ((x0.length : Nat) : Int)), pf (inR .i64 (x0.getD x1.toNat default))] [0, 4] (rt [] (C53 (x0.getD x1.toNat default)))) (r1 1 [4] [] [pf (inR .i64 (x1 * 37)), pf (inR .i64 (((x0.length : Nat) : Int) * 11)), pf (inR .i64 ((x1 * 37) + (((x0.length : Nat) : Int) * 11))), pf ((256 : Int) ≠ 0)] [0, 4, 8, 12] (rt [] (C53 (((x1 * 37) + (((x0.length : Nat) : Int) * 11)).tmod 256))))))
theorem at1_rng {b : List Int} (hb : ∀ y ∈ b, 0 ≤ y ∧ y ≤ 255) {i : Int} (hi : 0 ≤ i) : 0 ≤ at1 b i ∧ at1 b i ≤ 255 := by
  unfold at1
  refine cond_both (p := fun (r : Int) => 0 ≤ r ∧ r ≤ 255) (fun _ => getD_byte hb _) (fun _ => ?_)
  rw [Int.tmod_eq_emod_of_nonneg (by omega)]
  omega
theorem ok_laws_at (x0 : List Int) (x1 : Int) (hx : x0.length ≤ 1048576) (hb : ∀ y ∈ x0, 0 ≤ y ∧ y ≤ 255) (hi : 0 ≤ x1 ∧ x1 ≤ 1000) : FnT Try.prog 53 [.ro false 1 x0.length (rowOf (cInt .u8) x0), .int .i64 x1] (C53 (at1 x0 x1)) := by
  have aux : ∀ R, at1 x0 x1 = R → slim (C53 R) (A53 x0 x1) [] := by
    intro R hR
    refine rg trivial ?_
    refine rg trivial ?_
    revert hR; refine cd (fun hc1 hR => ?_) fun hc1 hR => ?_
    ·
      refine rg ⟨by ((try clear hR); intros; (try simp only [decide_eq_true_eq, decide_eq_false_iff_not, Bool.or_eq_true, Bool.and_eq_true, or_f_iff, not_f_iff, not_t_iff, Bool.not_eq_true', inR] at *); (repeat' apply And.intro) <;> (intros; omega)), by (have h9 := getD_byte hb x1.toNat; simp only [inR]; omega), trivial⟩ ?_
      exact congrArg C53 hR
    ·
      refine rg ⟨by ( intros; simp only [inR]; omega), by ( intros; simp only [inR]; omega), by ( intros; simp only [inR]; omega), by trivial, trivial⟩ ?_
      exact congrArg C53 hR
  exact Fn.go 21 Try.func53 (by kernel_rfl) (by kernel_rfl) (by simp [C53, Frs, FrsL]) (A53 x0 x1) (by kernel_rfl) (aux _ rfl)
def k53 (x0 : List Int) (x1 : Int) : Cl := (hres (C53 (at1 x0 x1)), k3 (ok_laws_at x0 x1))
def C25 (R : Int) : LV × List (Nat × BC) := (.int .i64 R, [])
def who (x0 : List Int) (x1 : Int) (x2 : Family) : Int := (at1 x0 x1).tmod ((x2.people.length : Nat) : Int)
def A25 (x0 : List Int) (x1 : Int) (x2 : Family) : Ann := .reg 2 [] [(1002, k53 x0 x1)] [6] [] [] [pf ((((x2.people.length : Nat) : Int) : Int) ≠ 0)] [] [4, 0] (rt [] (C25 ((at1 x0 x1).tmod ((x2.people.length : Nat) : Int))))
theorem who_rng {b : List Int} (hb : ∀ y ∈ b, 0 ≤ y ∧ y ≤ 255) {i : Int} (hi : 0 ≤ i) {x : Family} (hx : 0 < x.people.length) : 0 ≤ who b i x ∧ who b i x < x.people.length := by
  unfold who
  have h := at1_rng hb hi
  rw [Int.tmod_eq_emod_of_nonneg h.1]
  exact ⟨Int.emod_nonneg _ (by omega), Int.emod_lt_of_pos _ (by omega)⟩
theorem ok_laws_who (x0 : List Int) (x1 : Int) (x2 : Family) (hx : x0.length ≤ 1048576) (hb : ∀ y ∈ x0, 0 ≤ y ∧ y ≤ 255) (hi : 0 ≤ x1 ∧ x1 ≤ 1000) (hf : 0 < x2.people.length ∧ x2.people.length ≤ 40) : FnT Try.prog 25 [.ro false 1 x0.length (rowOf (cInt .u8) x0), .int .i64 x1, .agg (cFamily false x2)] (C25 (who x0 x1 x2)) := by
  have aux : ∀ R, who x0 x1 x2 = R → slim (C25 R) (A25 x0 x1 x2) [] := by
    intro R hR
    refine rg ⟨by (intros; omega), ⟨by trivial, by trivial, by trivial⟩, trivial⟩ ?_
    exact congrArg C25 hR
  exact Fn.go 14 Try.func25 (by kernel_rfl) (by kernel_rfl) (by simp [C25, Frs, FrsL]) (A25 x0 x1 x2) (by kernel_rfl) (aux _ rfl)
def k25 (x0 : List Int) (x1 : Int) (x2 : Family) : Cl := (hres (C25 (who x0 x1 x2)), k4 (ok_laws_who x0 x1 x2))
def C24 (R : Family) : LV × List (Nat × BC) := (.agg [.own 0, .own 1], [(0, .arr 6 R.people.length (rowOf (cPerson true) R.people)), (1, .arr 4 R.unions.length (rowOf (cUnion true) R.unions))])
def crowd (x0 : List Int) (x1 : Int) : Family := bif (decide (((at1 x0 9).tmod 4) = 0)) then (bif (decide (((((makeClose x0).people).length : Nat) : Int) = 0)) then (Family.mk [(Person.mk [97, 97] 1 (-1) (-1) 0 (-1))] ((makeClose x0).unions)) else (makeClose x0)) else (bif (decide (((((makeFamily x0 x1).people).length : Nat) : Int) = 0)) then (Family.mk [(Person.mk [97, 97] 1 (-1) (-1) 0 (-1))] ((makeFamily x0 x1).unions)) else (makeFamily x0 x1))
def A24 (x0 : List Int) (x1 : Int) : Ann := .reg 2 [] [(1002, k52 x0 x1)] [0, 4, 5] [4, 5, 1008, 2008] [] [] [] [0] (.reg 1 [] [(1, k53 x0 9)] [0, 4, 5, 12] [4, 5, 1008, 2008] [] [pf ((4 : Int) ≠ 0)] [] [4, 0] (cn (decide (((at1 x0 9).tmod 4) = 0)) (.reg 1 [] [(1, k54 x0)] [4, 5] [4, 5, 1014, 2014] [] [] [] [0] (r0 1 [4, 5, 18] [4, 5, 1014, 2014] (cn (decide (((((makeClose x0).people).length : Nat) : Int) = 0)) (.reg 1 [] [(1, bsC 20 (cPerson true) ([(Person.mk [97, 97] 1 (-1) (-1) 0 (-1))] : List Person))] [4, 5] [4, 5, 20, 2014] [] [] [] [0] (r0 1 [4] [4, 20, 2014] (rt [(0, some 20), (1, some 2014)] (C24 (Family.mk [(Person.mk [97, 97] 1 (-1) (-1) 0 (-1))] ((makeClose x0).unions)))))) (r0 1 [4] [4, 1014, 2014] (rt [(0, some 1014), (1, some 2014)] (C24 (makeClose x0))))))) (r0 1 [4, 5, 18] [4, 5, 1008, 2008] (cn (decide (((((makeFamily x0 x1).people).length : Nat) : Int) = 0)) (.reg 1 [] [(1, bsC 20 (cPerson true) ([(Person.mk [97, 97] 1 (-1) (-1) 0 (-1))] : List Person))] [4, 5] [4, 5, 20, 2008] [] [] [] [0] (r0 1 [4] [4, 20, 2008] (rt [(0, some 20), (1, some 2008)] (C24 (Family.mk [(Person.mk [97, 97] 1 (-1) (-1) 0 (-1))] ((makeFamily x0 x1).unions)))))) (r0 1 [4] [4, 1008, 2008] (rt [(0, some 1008), (1, some 2008)] (C24 (makeFamily x0 x1))))))))
theorem crowd_ok {b : List Int} (hx : b.length ≤ 1048576) (hb : ∀ y ∈ b, 0 ≤ y ∧ y ≤ 255) (m : Int) : specIsFamily (crowd b m) = true ∧ 0 < (crowd b m).people.length := by
  have one : ∀ z : Family, specIsFamily z = true → ((z.people.length : Nat) : Int) = 0 → specIsFamily (Family.mk [(Person.mk [97, 97] 1 (-1) (-1) 0 (-1))] z.unions) = true := fun z hz h0 => by
    have hu : z.unions = [] := by
      cases hu : z.unions with
      | nil => rfl
      | cons u r =>
        have := (fam_u hz (k := 0) (by rw [hu]; simp)).man
        omega
    rw [hu]
    exact (by kernel_rfl : specIsFamily (Family.mk [(Person.mk [97, 97] 1 (-1) (-1) 0 (-1))] []) = true)
  have both : ∀ z : Family, specIsFamily z = true → ∀ r : Family, (bif decide (((z.people.length : Nat) : Int) = 0) then (Family.mk [(Person.mk [97, 97] 1 (-1) (-1) 0 (-1))] z.unions) else z) = r → specIsFamily r = true ∧ 0 < r.people.length := fun z hz r hr => by
    subst hr
    exact cond_both (p := fun (r : Family) => specIsFamily r = true ∧ 0 < r.people.length) (fun c => ⟨one z hz (of_decide_eq_true c), by simp⟩) (fun c => ⟨hz, by have := of_decide_eq_false c; omega⟩)
  unfold crowd
  refine cond_both (p := fun (r : Family) => specIsFamily r = true ∧ 0 < r.people.length) (fun _ => both (makeClose b) (l8Close_ok (l01New_ok hb hx)) _ rfl) (fun _ => both (makeFamily b m) (l1Family_ok (l01New_ok hb hx) (by omega)) _ rfl)
theorem name_len {s : List UInt8} (h : specIsName s = true) : s.length ≤ 12 := by
  simp only [specIsName, cond_f_iff, or_f_iff, loopN_all, l1In, Bool.and_eq_true, decide_eq_true_eq, decide_eq_false_iff_not, and_true] at h
  omega
theorem fam_names {x : Family} (hf : specIsFamily x = true) : ∀ p ∈ x.people, p.name.length ≤ 1048576 := fun p hp => by
  obtain ⟨i, hi, e⟩ := List.getElem_of_mem hp
  have h := name_len (fam_p hf hi).name
  rw [List.getD_eq_getElem?_getD, List.getElem?_eq_getElem hi, Option.getD_some, e] at h
  omega
theorem bytes_ok {x : List Int} (h : x.length ≤ 1048576 ∧ ∀ y ∈ x, inR .u8 y) : x.length ≤ 1048576 ∧ ∀ y ∈ x, 0 ≤ y ∧ y ≤ 255 := ⟨h.1, fun y hy => by have := h.2 y hy; simp only [inR] at this; omega⟩
theorem crowd_bd {b : List Int} (h : b.length ≤ 1048576 ∧ ∀ y ∈ b, inR .u8 y) (m : Int) : specIsFamily (crowd b m) = true ∧ (0 < (crowd b m).people.length ∧ (crowd b m).people.length ≤ 40) ∧ (crowd b m).unions.length ≤ 60 ∧ ∀ p ∈ (crowd b m).people, p.name.length ≤ 1048576 := by
  have h1 := crowd_ok (bytes_ok h).1 (bytes_ok h).2 m
  have h2 := fam_n h1.1
  exact ⟨h1.1, ⟨h1.2, h2.1⟩, h2.2, fam_names h1.1⟩
theorem ok_laws_crowd (x0 : List Int) (x1 : Int) (hx : x0.length ≤ 1048576) (hb : ∀ y ∈ x0, 0 ≤ y ∧ y ≤ 255) (hm : 0 ≤ x1 ∧ x1 ≤ 40) : FnT Try.prog 24 [.ro false 1 x0.length (rowOf (cInt .u8) x0), .int .i64 x1] (C24 (crowd x0 x1)) := by
  have aux : ∀ R, crowd x0 x1 = R → slim (C24 R) (A24 x0 x1) [] := by
    intro R hR
    refine rg ⟨⟨by trivial, by trivial⟩, trivial⟩ ?_
    refine rg ⟨by trivial, ⟨by trivial, by trivial, by trivial⟩, trivial⟩ ?_
    revert hR; refine cd (fun hc1 hR => ?_) fun hc1 hR => ?_
    ·
      refine rg ⟨⟨by trivial, by trivial⟩, trivial⟩ ?_
      refine rg trivial ?_
      revert hR; refine cd (fun hc2 hR => ?_) fun hc2 hR => ?_
      ·
        refine rg ⟨trivial, trivial⟩ ?_
        refine rg trivial ?_
        exact congrArg C24 hR
      ·
        refine rg trivial ?_
        exact congrArg C24 hR
    ·
      refine rg trivial ?_
      revert hR; refine cd (fun hc3 hR => ?_) fun hc3 hR => ?_
      ·
        refine rg ⟨trivial, trivial⟩ ?_
        refine rg trivial ?_
        exact congrArg C24 hR
      ·
        refine rg trivial ?_
        exact congrArg C24 hR
  exact Fn.go 23 Try.func24 (by kernel_rfl) (by kernel_rfl) (by simp [C24, Frs, FrsL, FrsB, rowOf, cInt, cBool, cStr, cSl, FrsL_app, cPerson, cUnion, cFamily, cl01Cur]) (A24 x0 x1) (by kernel_rfl) (aux _ rfl)
def k24 (x0 : List Int) (x1 : Int) : Cl := (hres (C24 (crowd x0 x1)), k3 (ok_laws_crowd x0 x1))
end Go.Proofs.Ytanpfncfphpddab
