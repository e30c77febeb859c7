import Derived.Test.YtikfeeaapenplaaV104
set_option maxHeartbeats 4000000
set_option linter.unusedSimpArgs false
set_option linter.unusedVariables false
namespace Go.Proofs.Ytikfeeaapenplaa
open Go Go.Lite Go.Proofs
theorem may_eq (x : Family) (l : Law) (p q y : Int) : implMay x l p q y = specMay x l p q y := by
  have e : ((implHas x [p, q]) && (implIsLaw l)) = (((specIsLaw l) && (l1Has x p)) && (l1Has x q)) := by
    rw [isLaw_eq, has2_eq]; cases l1Has x p <;> cases l1Has x q <;> cases specIsLaw l <;> rfl
  unfold implMay specMay
  rw [e]
  cases h : (((specIsLaw l) && (l1Has x p)) && (l1Has x q))
  · rfl
  · rw [specImp_of]
    simp only [Bool.and_eq_true] at h
    rw [h.1.1, h.1.2, h.2]; rfl
theorem may_of {x : Family} {l : Law} {p q : Int} (hl : specIsLaw l = true) (hf : specIsFamily x = true) (hp : 0 ≤ p ∧ p < x.people.length) (hq : 0 ≤ q ∧ q < x.people.length) (y : Int) : specMay x l p q y = decide ((((impediments x l p q y).length : Nat) : Int) = 0) := by
  have h1 := (l1Has_iff x p).2 ⟨hp, hf⟩
  have h2 := (l1Has_iff x q).2 ⟨hq, hf⟩
  unfold specMay
  rw [specImp_of (by rw [hl, h1, h2]; rfl), hl, h1, h2]
  rfl
theorem partners_eq (x : Family) (l : Law) (p y : Int) : implPartners x l p y = specPartners x l p y := by
  unfold implPartners specPartners
  rw [has_law1]
  cases h : ((!(specIsLaw l)) || (!(l1Has x p)))
  · obtain ⟨hf, hp, _⟩ := par_pre h
    have hl : specIsLaw l = true := by simp only [or_f_iff, not_f_iff] at h; exact h.1
    simp only [cond_false]
    refine loopN_rel0 (fun i v u => v = u) Eq rfl (fun i v u n1 n2 hi hr hn => ?_) (fun v u hr => hr)
    have hq : 0 ≤ ((i : Nat) : Int) ∧ ((i : Nat) : Int) < x.people.length := by omega
    have hs := (fam_p hf (k := p.toNat) (by omega)).sex
    rw [may_of hl hf hp hq, may_of hl hf hq hp]
    by_cases c : (x.people.getD p.toNat default).sex = 2
    · rw [decide_eq_true c, decide_eq_false (show ¬ (x.people.getD p.toNat default).sex = 1 by omega)]
      simp only [cond_true, Bool.false_and, Bool.false_or, Bool.true_and]
      cases decide ((((impediments x l ((i : Nat) : Int) p y).length : Nat) : Int) = 0)
      · exact hn _ _ hr
      · exact hn _ _ (by rw [hr])
    · rw [decide_eq_false c, decide_eq_true (show (x.people.getD p.toNat default).sex = 1 by omega)]
      simp only [cond_false, Bool.false_and, Bool.or_false, Bool.true_and]
      cases decide ((((impediments x l p ((i : Nat) : Int) y).length : Nat) : Int) = 0)
      · exact hn _ _ hr
      · exact hn _ _ (by rw [hr])
  · rfl
theorem specPartners_len (x : Family) (l : Law) (p y : Int) : (specPartners x l p y).length ≤ x.people.length := by
  unfold specPartners
  exact cond_both (p := fun (r : List Int) => r.length ≤ x.people.length) (fun _ => by simp) (fun _ => filterLoop_len)
def C117 (R : Family) : LV × List (Nat × BC) := (.agg [.own 0, .own 1], [(0, .arr 6 R.people.length (rowOf (cPerson true) R.people)), (1, .arr 4 R.unions.length (rowOf (cUnion true) R.unions))])
def l1Copy (x0 : Family) : Family := x0
def A117 (x0 : Family) : Ann := .reg 5 [] [(2004, apN 9 (cPerson true) 56 x0.people), (3004, apN 15 (cUnion true) 32 x0.unions)] [2] [2, 9, 15] [] [] [] [0, 4] (rt [(0, some 9), (1, some 15)] (C117 x0))
theorem ok_spec_l1Copy (x0 : Family) (hx : x0.people.length ≤ 1048576) (hu : x0.unions.length ≤ 1048576) : FnT Try.prog 117 [.agg (cFamily false x0)] (C117 (l1Copy x0)) := by
  have aux : ∀ R, l1Copy x0 = R → slim (C117 R) (A117 x0) [] := by
    intro R hR
    refine rg ⟨by omega, by omega, trivial⟩ ?_
    exact congrArg C117 hR
  exact Fn.go 18 Try.func117 (by kernel_rfl) (by kernel_rfl) (by simp [C117, Frs, FrsL, FrsB, rowOf, cInt, cBool, cStr, cSl, FrsL_app, cPerson, cUnion, cFamily, cLaw]) (A117 x0) (by kernel_rfl) (aux _ rfl)
def k117 (x0 : Family) : Cl := (hres (C117 (l1Copy x0)), k2 (ok_spec_l1Copy x0))
def C56 (R : Family) : LV × List (Nat × BC) := (.agg [.own 0, .own 1], [(0, .arr 6 R.people.length (rowOf (cPerson true) R.people)), (1, .arr 4 R.unions.length (rowOf (cUnion true) R.unions))])
def copyFamily (x0 : Family) : Family := x0
def A56 (x0 : Family) : Ann := .reg 2 [] [(1002, apN 5 (cPerson true) 56 x0.people), (1005, apN 8 (cUnion true) 32 x0.unions)] [2] [2, 5, 8] [] [] [] [0, 4] (rt [(0, some 5), (1, some 8)] (C56 x0))
theorem ok_impl_copyFamily (x0 : Family) (hx : x0.people.length ≤ 1048576) (hu : x0.unions.length ≤ 1048576) : FnT Try.prog 56 [.agg (cFamily false x0)] (C56 (copyFamily x0)) := by
  have aux : ∀ R, copyFamily x0 = R → slim (C56 R) (A56 x0) [] := by
    intro R hR
    refine rg ⟨by omega, by omega, trivial⟩ ?_
    exact congrArg C56 hR
  exact Fn.go 10 Try.func56 (by kernel_rfl) (by kernel_rfl) (by simp [C56, Frs, FrsL, FrsB, rowOf, cInt, cBool, cStr, cSl, FrsL_app, cPerson, cUnion, cFamily, cLaw]) (A56 x0) (by kernel_rfl) (aux _ rfl)
def k56 (x0 : Family) : Cl := (hres (C56 (copyFamily x0)), k2 (ok_impl_copyFamily x0))
theorem may_fam {x : Family} {l : Law} {p q y : Int} (h : (!(specMay x l p q y)) = false) : x.people.length ≤ 40 ∧ x.unions.length ≤ 60 := by
  have h : specMay x l p q y = true := by simpa using h
  unfold specMay at h
  simp only [Bool.and_eq_true, l1Has_iff] at h
  exact fam_n h.1.1.2.2
def C29 (R : Family × Bool) : LV × List (Nat × BC) := (.tup [.agg [.own 0, .own 1], .bool R.2], [(0, .arr 6 R.1.people.length (rowOf (cPerson true) R.1.people)), (1, .arr 4 R.1.unions.length (rowOf (cUnion true) R.1.unions))])
def implJoin (x0 : Family) (x1 : Law) (x2 : Int) (x3 : Int) (x4 : Int) : Family × Bool := bif (!(implMay x0 x1 x2 x3 x4)) then ((Family.mk ([] : List Person) ([] : List Union)), false) else (bif (!(implIsFamily (Family.mk ((copyFamily x0).people) (((copyFamily x0).unions) ++ [(Union.mk x2 x3 x4 (-1))])))) then ((Family.mk ([] : List Person) ([] : List Union)), false) else ((Family.mk ((copyFamily x0).people) (((copyFamily x0).unions) ++ [(Union.mk x2 x3 x4 (-1))])), true))
def A29 (x0 : Family) (x1 : Law) (x2 : Int) (x3 : Int) (x4 : Int) : Ann := r0 1 [2, 3, 4, 5, 6, 10, 11] [5, 6, 10] (.reg 1 [] [(5, k30 x0 x1 x2 x3 x4)] [2, 3, 4, 5, 10, 11, 19] [5, 10] [] [] [] [0] (cn (!(implMay x0 x1 x2 x3 x4)) (r0 1 [2, 3, 4, 5, 10, 11] [5, 10] (rt [(0, none), (1, none)] (C29 ((Family.mk ([] : List Person) ([] : List Union)), false)))) (.reg 2 [] [(1, k56 x0), (1006, bsC 29 (cUnion true) ([(Union.mk x2 x3 x4 (-1))] : List Union)), (1007, ap1 30 (cUnion true) 32 ((copyFamily x0).unions) (Union.mk x2 x3 x4 (-1)))] [10, 11, 12] [10, 12, 30, 1022] [] [] [] [0, 4, 8] (.reg 1 [] [(1, k45 (Family.mk ((copyFamily x0).people) (((copyFamily x0).unions) ++ [(Union.mk x2 x3 x4 (-1))])))] [10, 11, 12, 34] [10, 12, 30, 1022] [] [] [] [0] (cn (!(implIsFamily (Family.mk ((copyFamily x0).people) (((copyFamily x0).unions) ++ [(Union.mk x2 x3 x4 (-1))])))) (r0 1 [10, 11, 12] [10, 12, 30, 1022] (rt [(0, none), (1, none)] (C29 ((Family.mk ([] : List Person) ([] : List Union)), false)))) (r0 1 [10, 11] [10, 30, 1022] (rt [(0, some 1022), (1, some 30)] (C29 ((Family.mk ((copyFamily x0).people) (((copyFamily x0).unions) ++ [(Union.mk x2 x3 x4 (-1))])), true)))))))))
theorem ok_impl_JoinUnion (x0 : Family) (x1 : Law) (x2 : Int) (x3 : Int) (x4 : Int) (hx : x0.people.length ≤ 1048576) (hu : x0.unions.length ≤ 1048576) (hn : ∀ p ∈ x0.people, p.name.length ≤ 1048576) : FnT Try.prog 29 [.agg (cFamily false x0), .agg (cLaw false x1), .int .i64 x2, .int .i64 x3, .int .i64 x4] (C29 (implJoin x0 x1 x2 x3 x4)) := by
  have aux : ∀ R, implJoin x0 x1 x2 x3 x4 = R → slim (C29 R) (A29 x0 x1 x2 x3 x4) [] := by
    intro R hR
    refine rg trivial ?_
    refine rg ⟨⟨by trivial, by trivial, by trivial⟩, trivial⟩ ?_
    revert hR; refine cd (fun hc1 hR => ?_) fun hc1 hR => ?_
    ·
      refine rg trivial ?_
      exact congrArg C29 hR
    ·
      refine rg ⟨⟨by trivial, by trivial⟩, trivial, by ((try clear hR); have h9 := may_fam (by first | exact hc1 | (rw [← may_eq]; exact hc1)); (try simp only [l1Copy, copyFamily, List.length_append, List.length_singleton] at *); omega), trivial⟩ ?_
      refine rg ⟨⟨by trivial, by ((try clear hR); have h9 := may_fam (by first | exact hc1 | (rw [← may_eq]; exact hc1)); (try simp only [l1Copy, copyFamily, List.length_append, List.length_singleton] at *); omega), by trivial⟩, trivial⟩ ?_
      revert hR; refine cd (fun hc2 hR => ?_) fun hc2 hR => ?_
      ·
        refine rg trivial ?_
        exact congrArg C29 hR
      ·
        refine rg trivial ?_
        exact congrArg C29 hR
  exact Fn.go 37 Try.func29 (by kernel_rfl) (by kernel_rfl) (by simp [C29, Frs, FrsL, FrsB, rowOf, cInt, cBool, cStr, cSl, FrsL_app, cPerson, cUnion, cFamily, cLaw]) (A29 x0 x1 x2 x3 x4) (by kernel_rfl) (aux _ rfl)
def k29 (x0 : Family) (x1 : Law) (x2 : Int) (x3 : Int) (x4 : Int) : Cl := (hres (C29 (implJoin x0 x1 x2 x3 x4)), k3 (ok_impl_JoinUnion x0 x1 x2 x3 x4))

structure l01Cur where
  b : List Int
  i : Int
  h : Int
  deriving Inhabited
def cl01Cur (fr : Bool) (x : l01Cur) : List LV := cSl fr 1 (cInt .u8) x.b ++ cInt .i64 x.i ++ cInt .i64 x.h

/-- A cursor over a draw. -/
structure CurOk (c : l01Cur) : Prop where
  byte : ∀ y ∈ c.b, 0 ≤ y ∧ y ≤ 255
  len : c.b.length ≤ 1048576
  pos : 0 ≤ c.i ∧ c.i ≤ c.b.length
  num : inR .i64 c.h
theorem CurOk.mk' {c : l01Cur} (h : CurOk c) {i x : Int} (hi : 0 ≤ i ∧ i ≤ c.b.length) (hx : inR .i64 x) : CurOk ⟨c.b, i, x⟩ := ⟨h.byte, h.len, hi, hx⟩
def C41 (x0 : List Int) (R : l01Cur) : LV × List (Nat × BC) := (.vp 0 0, [(0, .var [.ro false 1 R.b.length (rowOf (cInt .u8) R.b), .int .i64 R.i, .int .i64 R.h])])
def l01New (x0 : List Int) : l01Cur := loopW (fun (v1 : Int × Int) next => bif ((decide (v1.2 < ((x0.length : Nat) : Int))) && (decide (v1.2 < 4000))) then (next (bits .and .i64 (((v1.1 * 1103) + (x0.getD v1.2.toNat default)) + 7) 1073741823, v1.2 + 1)) else (l01Cur.mk x0 0 v1.1)) ((4000 - Int.toNat (0)) + 1) (3221 + ((x0.length : Nat) : Int), 0)
def D41b1 (x0 : List Int) (v1 : Int × Int) : Dl := ⟨[(3, .int .i64 v1.1), (4, .int .i64 v1.2)], []⟩
def A41b1 (x0 : List Int) (v1 : Int × Int) : Ann := .reg 1 [] [] [0, 2, 3, 4, 15] [] [decide (v1.2 < ((x0.length : Nat) : Int))] [] [] [1, 1] (cn ((decide (v1.2 < ((x0.length : Nat) : Int))) && (decide (v1.2 < 4000))) (r1 1 [0, 2, 3, 4] [] [pf (inR .i64 (v1.1 * 1103)), pf (0 ≤ (v1.2 : Int) ∧ (v1.2 : Int) < ((x0.length : Nat) : Int)), pf (inR .i64 (x0.getD v1.2.toNat default)), pf (inR .i64 ((v1.1 * 1103) + (x0.getD v1.2.toNat default))), pf (inR .i64 (((v1.1 * 1103) + (x0.getD v1.2.toNat default)) + 7))] [0, 4, 8, 12, 16] (r1 1 [0, 2, 3, 4] [] [pf (inR .i64 (v1.2 + 1))] [0] (.next 0 [] (D41b1 x0 (bits .and .i64 (((v1.1 * 1103) + (x0.getD v1.2.toNat default)) + 7) 1073741823, v1.2 + 1))))) (r0 1 [2] [31] (rt [(0, some 31)] (C41 x0 (l01Cur.mk x0 0 v1.1)))))
def A41 (x0 : List Int) : Ann := r1 2 [0, 2, 3] [] [pf (inR .i64 (3221 + ((x0.length : Nat) : Int)))] [0] (r0 1 [0, 2, 3, 4] [] (.loop (Int × Int) (D41b1 x0) [] [] [] (D41b1 x0 (3221 + ((x0.length : Nat) : Int), 0)) (A41b1 x0)))
theorem ok_spec_l01New (x0 : List Int) (hx : x0.length ≤ 1048576) (hb : ∀ y ∈ x0, 0 ≤ y ∧ y ≤ 255) : FnMT Try.prog 41 [.ro false 1 x0.length (rowOf (cInt .u8) x0)] [] (C41 x0 (l01New x0)) := by
  have aux : ∀ R, l01New x0 = R → slim (C41 x0 R) (A41 x0) [] := by
    intro R hR
    refine rg ⟨by ( intros; simp only [inR]; omega), trivial⟩ ?_
    refine rg trivial ?_
    revert hR; refine lW (fun v => (0 ≤ v.2 ∧ v.2 ≤ x0.length ∧ v.2 ≤ 4000) ∧ 0 ≤ v.1 ∧ v.1 ≤ 1073741823) (fun v => (4000 - Int.toNat (v.2))) (by (intros; omega)) (Nat.lt_succ_self _) rfl fun m1 v1 F1 hI1 hM1 hR hK1 => ?_
    refine rg trivial ?_
    revert hR; refine cd (fun hc1 hR => ?_) fun hc1 hR => ?_
    ·
      refine rg ⟨by ( intros; simp only [inR]; omega), by (have h9 := and_small (((v1.1 * 1103) + (x0.getD v1.2.toNat default)) + 7) 1073741823 1073741823 rfl (by omega); simp only [Bool.and_eq_true, decide_eq_true_eq] at *; omega), by (have h9 := getD_byte hb v1.2.toNat; (try simp only [inR]); omega), by (have h9 := getD_byte hb v1.2.toNat; (try simp only [inR]); omega), by (have h9 := getD_byte hb v1.2.toNat; (try simp only [inR]); omega), trivial⟩ ?_
      refine rg ⟨by ( intros; simp only [inR]; omega), trivial⟩ ?_
      exact hK1 (bits .and .i64 (((v1.1 * 1103) + (x0.getD v1.2.toNat default)) + 7) 1073741823, v1.2 + 1) (by (have h9 := and_small (((v1.1 * 1103) + (x0.getD v1.2.toNat default)) + 7) 1073741823 1073741823 rfl (by omega); simp only [Bool.and_eq_true, decide_eq_true_eq] at *; omega)) (by (have h9 := and_small (((v1.1 * 1103) + (x0.getD v1.2.toNat default)) + 7) 1073741823 1073741823 rfl (by omega); simp only [Bool.and_eq_true, decide_eq_true_eq] at *; omega)) hR
    ·
      refine rg trivial ?_
      exact congrArg (C41 x0) hR
  exact FnM.go 32 Try.func41 (by kernel_rfl) (by kernel_rfl) (A41 x0) (by kernel_rfl) (aux _ rfl)
def k41 (d : Nat) (ids : List Nat) (x0 : List Int) : Cl := (hresM d ids (C41 x0 (l01New x0)), k2 (ok_spec_l01New x0))
def C115 (x0 : l01Cur) (R : Int × Int × Int) : LV × List (Nat × BC) := (.int .i64 R.1, [(900000, .var [.ro false 1 x0.b.length (rowOf (cInt .u8) x0.b), .int .i64 R.2.1, .int .i64 R.2.2])])
def l01Byte (x0 : l01Cur) : Int × Int × Int := bif (decide (x0.i < ((x0.b.length : Nat) : Int))) then (bits .and .i64 ((bits .and .i64 (bits .xor .i64 ((IntKind.wrap .i64 ((IntKind.wrap .i64 (x0.h * 6364136223846793005)) + 1442695040888963407)) / 2 ^ 33) ((IntKind.wrap .i64 ((IntKind.wrap .i64 (x0.h * 6364136223846793005)) + 1442695040888963407)) / 2 ^ 45)) 255) + (IntKind.wrap .i64 (x0.b.getD x0.i.toNat default))) 255, x0.i + 1, IntKind.wrap .i64 ((IntKind.wrap .i64 (x0.h * 6364136223846793005)) + 1442695040888963407)) else (bits .and .i64 (bits .xor .i64 ((IntKind.wrap .i64 ((IntKind.wrap .i64 (x0.h * 6364136223846793005)) + 1442695040888963407)) / 2 ^ 33) ((IntKind.wrap .i64 ((IntKind.wrap .i64 (x0.h * 6364136223846793005)) + 1442695040888963407)) / 2 ^ 45)) 255, x0.i, IntKind.wrap .i64 ((IntKind.wrap .i64 (x0.h * 6364136223846793005)) + 1442695040888963407))
def A115 (x0 : l01Cur) : Ann := .reg 3 [(1005, .wrap), (1006, .wrap)] [] [0, 2, 3] [900000] [] [pf (0 ≤ (33 : Int) ∧ 33 ≤ (IntKind.bits .i64 : Int)), pf (0 ≤ (45 : Int) ∧ 45 ≤ (IntKind.bits .i64 : Int))] [] [0, 4] (r0 1 [0, 2, 3, 34] [900000] (cn (decide (x0.i < ((x0.b.length : Nat) : Int))) (.reg 1 [(11, .wrap)] [] [0, 2, 3] [900000] [] [pf (0 ≤ (x0.i : Int) ∧ (x0.i : Int) < ((x0.b.length : Nat) : Int)), pf (inR .i64 ((bits .and .i64 (bits .xor .i64 ((IntKind.wrap .i64 ((IntKind.wrap .i64 (x0.h * 6364136223846793005)) + 1442695040888963407)) / 2 ^ 33) ((IntKind.wrap .i64 ((IntKind.wrap .i64 (x0.h * 6364136223846793005)) + 1442695040888963407)) / 2 ^ 45)) 255) + (IntKind.wrap .i64 (x0.b.getD x0.i.toNat default))))] [] [0, 4] (r1 1 [2, 3] [900000] [pf (inR .i64 (x0.i + 1))] [0] (r0 1 [2] [900000] (rt [(900000, some 900000)] (C115 x0 (bits .and .i64 ((bits .and .i64 (bits .xor .i64 ((IntKind.wrap .i64 ((IntKind.wrap .i64 (x0.h * 6364136223846793005)) + 1442695040888963407)) / 2 ^ 33) ((IntKind.wrap .i64 ((IntKind.wrap .i64 (x0.h * 6364136223846793005)) + 1442695040888963407)) / 2 ^ 45)) 255) + (IntKind.wrap .i64 (x0.b.getD x0.i.toNat default))) 255, x0.i + 1, IntKind.wrap .i64 ((IntKind.wrap .i64 (x0.h * 6364136223846793005)) + 1442695040888963407))))))) (r0 1 [2] [900000] (rt [(900000, some 900000)] (C115 x0 (bits .and .i64 (bits .xor .i64 ((IntKind.wrap .i64 ((IntKind.wrap .i64 (x0.h * 6364136223846793005)) + 1442695040888963407)) / 2 ^ 33) ((IntKind.wrap .i64 ((IntKind.wrap .i64 (x0.h * 6364136223846793005)) + 1442695040888963407)) / 2 ^ 45)) 255, x0.i, IntKind.wrap .i64 ((IntKind.wrap .i64 (x0.h * 6364136223846793005)) + 1442695040888963407)))))))
theorem ok_spec_l01Byte (x0 : l01Cur) (hc : CurOk x0) : FnMT Try.prog 115 [.vp 900000 0] [.var [.ro false 1 x0.b.length (rowOf (cInt .u8) x0.b), .int .i64 x0.i, .int .i64 x0.h]] (C115 x0 (l01Byte x0)) := by
  have aux : ∀ R, l01Byte x0 = R → slim (C115 x0 R) (A115 x0) [] := by
    intro R hR
    refine rg ⟨by trivial, by trivial, trivial⟩ ?_
    refine rg trivial ?_
    revert hR; refine cd (fun hc1 hR => ?_) fun hc1 hR => ?_
    ·
      refine rg ⟨by (have h9 := hc.pos; have h8 := hc.len; (try simp only [inR, decide_eq_true_eq] at *); omega), by (have h9 := and_small (bits .xor .i64 ((IntKind.wrap .i64 ((IntKind.wrap .i64 (x0.h * 6364136223846793005)) + 1442695040888963407)) / 2 ^ 33) ((IntKind.wrap .i64 ((IntKind.wrap .i64 (x0.h * 6364136223846793005)) + 1442695040888963407)) / 2 ^ 45)) 255 255 rfl (by omega); have h8 := getD_byte hc.byte x0.i.toNat; have h7 := wrap_small (n := x0.b.getD x0.i.toNat default) (by omega); simp only [inR]; omega), trivial⟩ ?_
      refine rg ⟨by (have h9 := hc.pos; have h8 := hc.len; (try simp only [inR, decide_eq_true_eq] at *); omega), trivial⟩ ?_
      refine rg trivial ?_
      exact congrArg (C115 x0) hR
    ·
      refine rg trivial ?_
      exact congrArg (C115 x0) hR
  exact FnM.go 58 Try.func115 (by kernel_rfl) (by kernel_rfl) (A115 x0) (by kernel_rfl) (aux _ rfl)
def k115 (d : Nat) (ids : List Nat) (x0 : l01Cur) : Cl := (hresM d ids (C115 x0 (l01Byte x0)), k1 (ok_spec_l01Byte x0))
theorem byte_bd (x : Int) : 0 ≤ bits .and .i64 x 255 ∧ bits .and .i64 x 255 ≤ 255 := and_small x 255 255 rfl (by omega)
theorem l01Byte_ok {c : l01Cur} (h : CurOk c) : (0 ≤ (l01Byte c).1 ∧ (l01Byte c).1 ≤ 255) ∧ CurOk ⟨c.b, (l01Byte c).2.1, (l01Byte c).2.2⟩ := by
  unfold l01Byte
  refine cond_both (p := fun (r : Int × Int × Int) => (0 ≤ r.1 ∧ r.1 ≤ 255) ∧ CurOk ⟨c.b, r.2.1, r.2.2⟩) (fun c1 => ⟨byte_bd _, h.mk' ?_ (wrap_inR _)⟩) (fun _ => ⟨byte_bd _, h.mk' h.pos (wrap_inR _)⟩)
  have := h.pos; have := of_decide_eq_true c1
  simp only; omega
end Go.Proofs.Ytikfeeaapenplaa
