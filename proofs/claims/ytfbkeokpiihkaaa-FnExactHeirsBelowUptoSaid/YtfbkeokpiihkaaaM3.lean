import Derived.Test.YtfbkeokpiihkaaaV2
set_option maxHeartbeats 4000000
set_option linter.unusedSimpArgs false
set_option linter.unusedVariables false
namespace Go.Proofs.Ytfbkeokpiihkaaa
open Go Go.Lite Go.Proofs
theorem l1Parent_iff (x : Family) (i q s l : Int) : l1Parent x i q s l = true ↔ q = -1 ∨ 0 ≤ q ∧ q < i ∧ (x.people.getD q.toNat default).sex = s ∧ (x.people.getD q.toNat default).born < (x.people.getD i.toNat default).born ∧
    ((x.people.getD q.toNat default).died = -1 ∨ (x.people.getD i.toNat default).born ≤ IntKind.wrap .i64 ((x.people.getD q.toNat default).died + l)) := by
  simp only [l1Parent, cond_f_iff, cond_t_iff, or_f_iff, Bool.and_eq_true, Bool.or_eq_true, decide_eq_true_eq, decide_eq_false_iff_not, not_f_iff, Int.not_lt, Int.not_le, and_assoc]
theorem l1Person_iff (x : Family) (i : Int) : l1Person x i = true ↔ specIsName (x.people.getD i.toNat default).name = true ∧ (1 ≤ (x.people.getD i.toNat default).sex ∧ (x.people.getD i.toNat default).sex ≤ 2) ∧ (0 ≤ (x.people.getD i.toNat default).born ∧ (x.people.getD i.toNat default).born ≤ 9999) ∧
    ((x.people.getD i.toNat default).died = -1 ∨ (x.people.getD i.toNat default).born ≤ (x.people.getD i.toNat default).died ∧ (x.people.getD i.toNat default).died ≤ 9999) ∧ (∀ j, j < i.toNat → (x.people.getD j default).name ≠ (x.people.getD i.toNat default).name) ∧
    l1Parent x i (x.people.getD i.toNat default).father 1 1 = true ∧ l1Parent x i (x.people.getD i.toNat default).mother 2 0 = true := by
  simp only [l1Person, cond_f_iff, or_f_iff, loopN_all, l1In, not_f_iff, and_f_iff, Bool.and_eq_true, decide_eq_true_eq, beq_eq_false_iff_ne, and_assoc, not_t_iff, decide_eq_false_iff_not, Bool.not_eq_true', ← Classical.or_iff_not_imp_left]
theorem l1Person_par (x : Family) (k : Nat) (h : l1Person x k = true) : (x.people.getD k default).father < k ∧ (x.people.getD k default).mother < k := by
  obtain ⟨_, _, _, _, _, h1, h2⟩ := (l1Person_iff x k).1 h
  rw [l1Parent_iff] at h1 h2
  simp only [Int.toNat_natCast] at h1 h2
  omega
def C67 (R : Bool) : LV × List (Nat × BC) := (.bool R, [])
def specIsFamily (x0 : Family) : Bool := bif ((decide (40 < ((x0.people.length : Nat) : Int))) || (decide (60 < ((x0.unions.length : Nat) : Int)))) then false else (loopN (fun i1 (v1 : Unit) next => bif (!(l1Person x0 ((i1 : Nat) : Int))) then false else (next ())) (fun (v1 : Unit) => loopN (fun i2 (v2 : Unit) next => bif (decide (10 < ((l1Depths x0).getD i2 default))) then false else (next ())) (fun (v2 : Unit) => loopN (fun i3 (v3 : Unit) next => bif (!(l1Union x0 ((i3 : Nat) : Int))) then false else (next ())) (fun (v3 : Unit) => true) x0.unions.length 0 ()) ((l1Depths x0).length) 0 ()) x0.people.length 0 ())
def D67b1 (x0 : Family) (i1 : Nat) (v1 : Unit) : Dl := ⟨[(20, .int .i64 ((i1 : Nat) : Int))], []⟩
def D67b2 (x0 : Family) (i1 : Nat) (v1 : Unit) (i2 : Nat) (v2 : Unit) : Dl := ⟨[(31, .int .i64 ((i2 : Nat) : Int))], []⟩
def D67b3 (x0 : Family) (i1 : Nat) (v1 : Unit) (i2 : Nat) (v2 : Unit) (i3 : Nat) (v3 : Unit) : Dl := ⟨[(41, .int .i64 ((i3 : Nat) : Int))], []⟩
def A67b3 (x0 : Family) (i1 : Nat) (v1 : Unit) (i2 : Nat) (v2 : Unit) (i3 : Nat) (v3 : Unit) : Ann := r0 1 [1, 2, 40, 41, 42] [1] (cn (decide (((i3 : Nat) : Int) < ((x0.unions.length : Nat) : Int))) (.reg 2 [] [(1002, k92 x0 ((i3 : Nat) : Int))] [1, 2, 40, 41, 47] [1] [] [] [] [0] (cn (!(l1Union x0 ((i3 : Nat) : Int))) (r0 1 [1, 2, 40, 41] [1] (rt [] (C67 false))) (r1 1 [1, 2, 40, 41] [1] [pf (inR .i64 (((i3 : Nat) : Int) + 1))] [0] (.next 0 [] (D67b3 x0 i1 v1 i2 v2 (i3 + 1) ()))))) (r0 1 [2] [] (rt [] (C67 true))))
def A67b2 (x0 : Family) (i1 : Nat) (v1 : Unit) (i2 : Nat) (v2 : Unit) : Ann := r0 1 [1, 2, 29, 30, 31, 32] [1, 1029] (cn (decide (((i2 : Nat) : Int) < (((l1Depths x0).length : Nat) : Int))) (r1 2 [1, 2, 29, 30, 31, 36] [1, 1029] [pf (0 ≤ (((i2 : Nat) : Int) : Int) ∧ (((i2 : Nat) : Int) : Int) < (((l1Depths x0).length : Nat) : Int))] [0] (cn (decide (10 < ((l1Depths x0).getD i2 default))) (r0 1 [1, 2, 29, 30, 31] [1, 1029] (rt [] (C67 false))) (r1 1 [1, 2, 29, 30, 31] [1, 1029] [pf (inR .i64 (((i2 : Nat) : Int) + 1))] [0] (.next 0 [] (D67b2 x0 i1 v1 (i2 + 1) ()))))) (r0 1 [1, 2, 40, 41] [1] (lp (D67b3 x0 i1 v1 i2 v2) [] [] [] (D67b3 x0 i1 v1 i2 v2 0 ()) (A67b3 x0 i1 v1 i2 v2))))
def A67b1 (x0 : Family) (i1 : Nat) (v1 : Unit) : Ann := r0 1 [1, 2, 19, 20, 21] [1] (cn (decide (((i1 : Nat) : Int) < ((x0.people.length : Nat) : Int))) (.reg 2 [] [(1002, k90 x0 ((i1 : Nat) : Int))] [1, 2, 19, 20, 26] [1] [] [] [] [0] (cn (!(l1Person x0 ((i1 : Nat) : Int))) (r0 1 [1, 2, 19, 20] [1] (rt [] (C67 false))) (r1 1 [1, 2, 19, 20] [1] [pf (inR .i64 (((i1 : Nat) : Int) + 1))] [0] (.next 0 [] (D67b1 x0 (i1 + 1) ()))))) (.reg 1 [] [(1, k91 x0)] [1, 2, 29, 30, 31] [1, 1029] [] [] [] [0] (lp (D67b2 x0 i1 v1) [] [] [] (D67b2 x0 i1 v1 0 ()) (A67b2 x0 i1 v1))))
def A67 (x0 : Family) : Ann := r0 1 [1, 2] [1] (.reg 1 [] [] [1, 2, 16] [1] [!(decide (40 < ((x0.people.length : Nat) : Int))), decide (40 < ((x0.people.length : Nat) : Int))] [] [] [1, 1, 1, 6] (cn ((decide (40 < ((x0.people.length : Nat) : Int))) || (decide (60 < ((x0.unions.length : Nat) : Int)))) (r0 1 [1, 2] [1] (rt [] (C67 false))) (r0 1 [1, 2, 19, 20] [1] (lp (D67b1 x0) [] [] [] (D67b1 x0 0 ()) (A67b1 x0)))))
theorem ok_spec_IsFamily (x0 : Family) (hx : x0.people.length ≤ 1048576) (hu : x0.unions.length ≤ 1048576) (hn : ∀ p ∈ x0.people, p.name.length ≤ 1048576) : FnT Try.prog 67 [.agg (cFamily false x0)] (C67 (specIsFamily x0)) := by
  have aux : ∀ R, specIsFamily x0 = R → slim (C67 R) (A67 x0) [] := by
    intro R hR
    refine rg trivial ?_
    refine rg trivial ?_
    revert hR; refine cd (fun hc1 hR => ?_) fun hc1 hR => ?_
    ·
      refine rg trivial ?_
      exact congrArg C67 hR
    ·
      refine rg trivial ?_
      revert hR; refine lN (fun i v => ∀ k : Nat, k < i → l1Person x0 k = true) (by (intros; omega)) rfl fun i1 v1 F1 hn1 hI1 hR hK1 => ?_
      refine rg trivial ?_
      refine ⟨fun hc2 => ?_, fun hc2 => ?_⟩
      · have hii1 : i1 < x0.people.length := by have := of_decide_eq_true hc2; omega
        replace hR := loopN_step hR hii1
        refine rg ⟨⟨by trivial, by trivial, by (intros; omega)⟩, trivial⟩ ?_
        revert hR; refine cd (fun hc3 hR => ?_) fun hc3 hR => ?_
        ·
          refine rg trivial ?_
          exact congrArg C67 hR
        ·
          refine rg ⟨by ( intros; simp only [inR]; omega), trivial⟩ ?_
          exact hK1 () hii1 (by ((try clear hR hK1); intros; (try simp only [decide_eq_true_eq, decide_eq_false_iff_not, Bool.or_eq_true, Bool.and_eq_true, or_f_iff, not_f_iff, not_t_iff, Bool.not_eq_true', inR] at *); (repeat' apply And.intro) <;> grind [inR, getD_set, getD_snoc, getD_rep, List.length_set, rep_snoc, l1Person])) hR
      · obtain rfl : i1 = x0.people.length := by have := of_decide_eq_false hc2; omega
        replace hR := loopN_end hR (Nat.lt_irrefl _)
        refine rg ⟨⟨by trivial, by (exact fun k hk => l1Person_par _ _ (hI1 k hk))⟩, trivial⟩ ?_
        have hp1 := l1Depths_len x0
        revert hR; refine lN (fun i v => True) (by trivial) rfl fun i2 v2 F2 hn2 hI2 hR hK2 => ?_
        refine rg trivial ?_
        refine ⟨fun hc4 => ?_, fun hc4 => ?_⟩
        · have hii2 : i2 < (l1Depths x0).length := by have := of_decide_eq_true hc4; omega
          replace hR := loopN_step hR hii2
          refine rg ⟨by (intros; omega), trivial⟩ ?_
          revert hR; refine cd (fun hc5 hR => ?_) fun hc5 hR => ?_
          ·
            refine rg trivial ?_
            exact congrArg C67 hR
          ·
            refine rg ⟨by ( intros; simp only [inR]; omega), trivial⟩ ?_
            exact hK2 () hii2 (by trivial) hR
        · obtain rfl : i2 = (l1Depths x0).length := by have := of_decide_eq_false hc4; omega
          replace hR := loopN_end hR (Nat.lt_irrefl _)
          refine rg trivial ?_
          revert hR; refine lN (fun i v => True) (by trivial) rfl fun i3 v3 F3 hn3 hI3 hR hK3 => ?_
          refine rg trivial ?_
          refine ⟨fun hc6 => ?_, fun hc6 => ?_⟩
          · have hii3 : i3 < x0.unions.length := by have := of_decide_eq_true hc6; omega
            replace hR := loopN_step hR hii3
            refine rg ⟨⟨by trivial, by trivial, by (intros; omega)⟩, trivial⟩ ?_
            revert hR; refine cd (fun hc7 hR => ?_) fun hc7 hR => ?_
            ·
              refine rg trivial ?_
              exact congrArg C67 hR
            ·
              refine rg ⟨by ( intros; simp only [inR]; omega), trivial⟩ ?_
              exact hK3 () hii3 (by trivial) hR
          · obtain rfl : i3 = x0.unions.length := by have := of_decide_eq_false hc6; omega
            replace hR := loopN_end hR (Nat.lt_irrefl _)
            refine rg trivial ?_
            exact congrArg C67 hR
  exact Fn.go 49 Try.func67 (by kernel_rfl) (by kernel_rfl) (by simp [C67, Frs, FrsL]) (A67 x0) (by kernel_rfl) (aux _ rfl)
def k67 (x0 : Family) : Cl := (hres (C67 (specIsFamily x0)), k3 (ok_spec_IsFamily x0))
def C38 (R : Bool) : LV × List (Nat × BC) := (.bool R, [])
def l1Has (x0 : Family) (x1 : Int) : Bool := ((decide (0 ≤ x1)) && (decide (x1 < ((x0.people.length : Nat) : Int)))) && (specIsFamily x0)
def A38 (x0 : Family) (x1 : Int) : Ann := .reg 2 [] [(1011, cg ((decide (0 ≤ x1)) && (decide (x1 < ((x0.people.length : Nat) : Int)))) (k67 x0))] [4] [] [decide (0 ≤ x1), (decide (0 ≤ x1)) && (decide (x1 < ((x0.people.length : Nat) : Int)))] [] [] [1, 1, 1, 1, 1, 5, 0, 5] (rt [] (C38 (((decide (0 ≤ x1)) && (decide (x1 < ((x0.people.length : Nat) : Int)))) && (specIsFamily x0))))
theorem ok_spec_l1Has (x0 : Family) (x1 : Int) (hx : x0.people.length ≤ 1048576) (hu : x0.unions.length ≤ 1048576) (hn : ∀ p ∈ x0.people, p.name.length ≤ 1048576) : FnT Try.prog 38 [.agg (cFamily false x0), .int .i64 x1] (C38 (l1Has x0 x1)) := by
  have aux : ∀ R, l1Has x0 x1 = R → slim (C38 R) (A38 x0 x1) [] := by
    intro R hR
    refine rg ⟨fun hg0 => ⟨by trivial, by trivial, by trivial⟩, trivial⟩ ?_
    exact congrArg C38 hR
  exact Fn.go 18 Try.func38 (by kernel_rfl) (by kernel_rfl) (by simp [C38, Frs, FrsL]) (A38 x0 x1) (by kernel_rfl) (aux _ rfl)
def k38 (x0 : Family) (x1 : Int) : Cl := (hres (C38 (l1Has x0 x1)), k3 (ok_spec_l1Has x0 x1))
def l1Parents (x0 : Family) (x1 : Int) : (List Int) := bif (decide (0 ≤ ((x0.people.getD x1.toNat default).father))) then (bif (decide (0 ≤ ((x0.people.getD x1.toNat default).mother))) then ((([] : List Int) ++ [(x0.people.getD x1.toNat default).father]) ++ [(x0.people.getD x1.toNat default).mother]) else (([] : List Int) ++ [(x0.people.getD x1.toNat default).father])) else (bif (decide (0 ≤ ((x0.people.getD x1.toNat default).mother))) then (([] : List Int) ++ [(x0.people.getD x1.toNat default).mother]) else ([] : List Int))
theorem l1Has_iff (x : Family) (p : Int) : l1Has x p = true ↔ (0 ≤ p ∧ p < x.people.length) ∧ specIsFamily x = true := by
  simp only [l1Has, Bool.and_eq_true, decide_eq_true_eq]
theorem specIsFamily_iff (x : Family) : specIsFamily x = true ↔ (x.people.length ≤ 40 ∧ x.unions.length ≤ 60) ∧ (∀ k : Nat, k < x.people.length → l1Person x k = true) ∧ (∀ k : Nat, k < x.people.length → (l1Depths x).getD k default ≤ 10) ∧ ∀ k : Nat, k < x.unions.length → l1Union x k = true := by
  simp only [specIsFamily, cond_f_iff, or_f_iff, loopN_all, not_f_iff, decide_eq_false_iff_not, Int.not_lt, l1Depths_len, and_true]
  constructor
  · rintro ⟨⟨h1, h2⟩, h3, h4, h5⟩; exact ⟨⟨by omega, by omega⟩, h3, h4, h5⟩
  · rintro ⟨⟨h1, h2⟩, h3, h4, h5⟩; exact ⟨⟨by omega, by omega⟩, h3, h4, h5⟩
end Go.Proofs.Ytfbkeokpiihkaaa
