import Derived.Test.YtkkijpibajigfabDoorM2
set_option maxHeartbeats 4000000
set_option linter.unusedSimpArgs false
set_option linter.unusedVariables false
namespace Go.Proofs.YtkkijpibajigfabDoor
open Go Go.Lite Go.Proofs
def C32 (R : Bool) : LV × List (Nat × BC) := (.bool R, [])
def specIsFamily (x0 : Family) : Bool := bif ((decide (40 < ((x0.people.length : Nat) : Int))) || (decide (60 < ((x0.unions.length : Nat) : Int)))) then false else (loopN (fun i1 (v1 : Unit) next => bif (!(l1Person x0 ((i1 : Nat) : Int))) then false else (next ())) (fun (v1 : Unit) => loopN (fun i2 (v2 : Unit) next => bif (decide (10 < ((l1Depths x0).getD i2 default))) then false else (next ())) (fun (v2 : Unit) => loopN (fun i3 (v3 : Unit) next => bif (!(l1Union x0 ((i3 : Nat) : Int))) then false else (next ())) (fun (v3 : Unit) => true) x0.unions.length 0 ()) ((l1Depths x0).length) 0 ()) x0.people.length 0 ())
def D32b1 (x0 : Family) (i1 : Nat) (v1 : Unit) : Dl := ⟨[(20, .int .i64 ((i1 : Nat) : Int))], []⟩
def D32b2 (x0 : Family) (i1 : Nat) (v1 : Unit) (i2 : Nat) (v2 : Unit) : Dl := ⟨[(31, .int .i64 ((i2 : Nat) : Int))], []⟩
def D32b3 (x0 : Family) (i1 : Nat) (v1 : Unit) (i2 : Nat) (v2 : Unit) (i3 : Nat) (v3 : Unit) : Dl := ⟨[(41, .int .i64 ((i3 : Nat) : Int))], []⟩
def A32b3 (x0 : Family) (i1 : Nat) (v1 : Unit) (i2 : Nat) (v2 : Unit) (i3 : Nat) (v3 : Unit) : Ann := r0 1 [1, 2, 40, 41, 42] [1] (cn (decide (((i3 : Nat) : Int) < ((x0.unions.length : Nat) : Int))) (.reg 2 [] [(1002, k50 x0 ((i3 : Nat) : Int))] [1, 2, 40, 41, 47] [1] [] [] [] [0] (cn (!(l1Union x0 ((i3 : Nat) : Int))) (r0 1 [1, 2, 40, 41] [1] (rt [] (C32 false))) (r1 1 [1, 2, 40, 41] [1] [pf (inR .i64 (((i3 : Nat) : Int) + 1))] [0] (.next 0 [] (D32b3 x0 i1 v1 i2 v2 (i3 + 1) ()))))) (r0 1 [2] [] (rt [] (C32 true))))
def A32b2 (x0 : Family) (i1 : Nat) (v1 : Unit) (i2 : Nat) (v2 : Unit) : Ann := r0 1 [1, 2, 29, 30, 31, 32] [1, 1029] (cn (decide (((i2 : Nat) : Int) < (((l1Depths x0).length : Nat) : Int))) (r1 2 [1, 2, 29, 30, 31, 36] [1, 1029] [pf (0 ≤ (((i2 : Nat) : Int) : Int) ∧ (((i2 : Nat) : Int) : Int) < (((l1Depths x0).length : Nat) : Int))] [0] (cn (decide (10 < ((l1Depths x0).getD i2 default))) (r0 1 [1, 2, 29, 30, 31] [1, 1029] (rt [] (C32 false))) (r1 1 [1, 2, 29, 30, 31] [1, 1029] [pf (inR .i64 (((i2 : Nat) : Int) + 1))] [0] (.next 0 [] (D32b2 x0 i1 v1 (i2 + 1) ()))))) (r0 1 [1, 2, 40, 41] [1] (lp (D32b3 x0 i1 v1 i2 v2) [] [] [] (D32b3 x0 i1 v1 i2 v2 0 ()) (A32b3 x0 i1 v1 i2 v2))))
def A32b1 (x0 : Family) (i1 : Nat) (v1 : Unit) : Ann := r0 1 [1, 2, 19, 20, 21] [1] (cn (decide (((i1 : Nat) : Int) < ((x0.people.length : Nat) : Int))) (.reg 2 [] [(1002, k48 x0 ((i1 : Nat) : Int))] [1, 2, 19, 20, 26] [1] [] [] [] [0] (cn (!(l1Person x0 ((i1 : Nat) : Int))) (r0 1 [1, 2, 19, 20] [1] (rt [] (C32 false))) (r1 1 [1, 2, 19, 20] [1] [pf (inR .i64 (((i1 : Nat) : Int) + 1))] [0] (.next 0 [] (D32b1 x0 (i1 + 1) ()))))) (.reg 1 [] [(1, k49 x0)] [1, 2, 29, 30, 31] [1, 1029] [] [] [] [0] (lp (D32b2 x0 i1 v1) [] [] [] (D32b2 x0 i1 v1 0 ()) (A32b2 x0 i1 v1))))
def A32 (x0 : Family) : Ann := r0 1 [1, 2] [1] (.reg 1 [] [] [1, 2, 16] [1] [!(decide (40 < ((x0.people.length : Nat) : Int))), decide (40 < ((x0.people.length : Nat) : Int))] [] [] [1, 1, 1, 6] (cn ((decide (40 < ((x0.people.length : Nat) : Int))) || (decide (60 < ((x0.unions.length : Nat) : Int)))) (r0 1 [1, 2] [1] (rt [] (C32 false))) (r0 1 [1, 2, 19, 20] [1] (lp (D32b1 x0) [] [] [] (D32b1 x0 0 ()) (A32b1 x0)))))
theorem ok_spec_IsFamily (x0 : Family) (hx : x0.people.length ≤ 1048576) (hu : x0.unions.length ≤ 1048576) (hn : ∀ p ∈ x0.people, p.name.length ≤ 1048576) : FnT Tryd.prog 32 [.agg (cFamily false x0)] (C32 (specIsFamily x0)) := by
  have aux : ∀ R, specIsFamily x0 = R → slim (C32 R) (A32 x0) [] := by
    intro R hR
    refine rg trivial ?_
    refine rg trivial ?_
    revert hR; refine cd (fun hc1 hR => ?_) fun hc1 hR => ?_
    ·
      refine rg trivial ?_
      exact congrArg C32 hR
    ·
      refine rg trivial ?_
      revert hR; refine lN (fun i v => ∀ k : Nat, k < i → l1Person x0 k = true) (by (intros; omega)) rfl fun i1 v1 F1 hn1 hI1 hR hK1 => ?_
      refine rg trivial ?_
      refine ⟨fun hc2 => ?_, fun hc2 => ?_⟩
      · have hii1 : i1 < x0.people.length := by have := of_decide_eq_true hc2; omega
        replace hR := loopN_step hR hii1
        refine rg ⟨⟨by trivial, by trivial, by (intros; omega)⟩, trivial⟩ ?_
        revert hR; refine cd (fun hc3 hR => ?_) fun hc3 hR => ?_
        ·
          refine rg trivial ?_
          exact congrArg C32 hR
        ·
          refine rg ⟨by ( intros; simp only [inR]; omega), trivial⟩ ?_
          exact hK1 () hii1 (by ((try clear hR hK1); intros; (try simp only [decide_eq_true_eq, decide_eq_false_iff_not, Bool.or_eq_true, Bool.and_eq_true, or_f_iff, not_f_iff, not_t_iff, Bool.not_eq_true', inR] at *); (repeat' apply And.intro) <;> grind [inR, getD_set, getD_snoc, getD_rep, List.length_set, rep_snoc, l1Person])) hR
      · obtain rfl : i1 = x0.people.length := by have := of_decide_eq_false hc2; omega
        replace hR := loopN_end hR (Nat.lt_irrefl _)
        refine rg ⟨⟨by trivial, by (exact fun k hk => l1Person_par _ _ (hI1 k hk))⟩, trivial⟩ ?_
        have hp1 := l1Depths_len x0
        revert hR; refine lN (fun i v => True) (by trivial) rfl fun i2 v2 F2 hn2 hI2 hR hK2 => ?_
        refine rg trivial ?_
        refine ⟨fun hc4 => ?_, fun hc4 => ?_⟩
        · have hii2 : i2 < (l1Depths x0).length := by have := of_decide_eq_true hc4; omega
          replace hR := loopN_step hR hii2
          refine rg ⟨by (intros; omega), trivial⟩ ?_
          revert hR; refine cd (fun hc5 hR => ?_) fun hc5 hR => ?_
          ·
            refine rg trivial ?_
            exact congrArg C32 hR
          ·
            refine rg ⟨by ( intros; simp only [inR]; omega), trivial⟩ ?_
            exact hK2 () hii2 (by trivial) hR
        · obtain rfl : i2 = (l1Depths x0).length := by have := of_decide_eq_false hc4; omega
          replace hR := loopN_end hR (Nat.lt_irrefl _)
          refine rg trivial ?_
          revert hR; refine lN (fun i v => True) (by trivial) rfl fun i3 v3 F3 hn3 hI3 hR hK3 => ?_
          refine rg trivial ?_
          refine ⟨fun hc6 => ?_, fun hc6 => ?_⟩
          · have hii3 : i3 < x0.unions.length := by have := of_decide_eq_true hc6; omega
            replace hR := loopN_step hR hii3
            refine rg ⟨⟨by trivial, by trivial, by (intros; omega)⟩, trivial⟩ ?_
            revert hR; refine cd (fun hc7 hR => ?_) fun hc7 hR => ?_
            ·
              refine rg trivial ?_
              exact congrArg C32 hR
            ·
              refine rg ⟨by ( intros; simp only [inR]; omega), trivial⟩ ?_
              exact hK3 () hii3 (by trivial) hR
          · obtain rfl : i3 = x0.unions.length := by have := of_decide_eq_false hc6; omega
            replace hR := loopN_end hR (Nat.lt_irrefl _)
            refine rg trivial ?_
            exact congrArg C32 hR
  exact Fn.go 49 Tryd.func32 (by kernel_rfl) (by kernel_rfl) (by simp [C32, Frs, FrsL]) (A32 x0) (by kernel_rfl) (aux _ rfl)
def k32 (x0 : Family) : Cl := (hres (C32 (specIsFamily x0)), k3 (ok_spec_IsFamily x0))
theorem specIsFamily_iff (x : Family) : specIsFamily x = true ↔ (x.people.length ≤ 40 ∧ x.unions.length ≤ 60) ∧ (∀ k : Nat, k < x.people.length → l1Person x k = true) ∧ (∀ k : Nat, k < x.people.length → (l1Depths x).getD k default ≤ 10) ∧ ∀ k : Nat, k < x.unions.length → l1Union x k = true := by
  simp only [specIsFamily, cond_f_iff, or_f_iff, loopN_all, not_f_iff, decide_eq_false_iff_not, Int.not_lt, l1Depths_len, and_true]
  constructor
  · rintro ⟨⟨h1, h2⟩, h3, h4, h5⟩; exact ⟨⟨by omega, by omega⟩, h3, h4, h5⟩
  · rintro ⟨⟨h1, h2⟩, h3, h4, h5⟩; exact ⟨⟨by omega, by omega⟩, h3, h4, h5⟩
end Go.Proofs.YtkkijpibajigfabDoor
