import Derived.Test.YtepefimocflfkabDoorM46
set_option maxHeartbeats 4000000
set_option linter.unusedSimpArgs false
set_option linter.unusedVariables false
namespace Go.Proofs.YtepefimocflfkabDoor
open Go Go.Lite Go.Proofs
def C13 (R : Int) : LV × List (Nat × BC) := (.int .i64 R, [])
def at1 (x0 : List Int) (x1 : Int) : Int := bif (decide (x1 < ((x0.length : Nat) : Int))) then (x0.getD x1.toNat default) else (((x1 * 37) + (((x0.length : Nat) : Int) * 11)).tmod 256)
def A13 (x0 : List Int) (x1 : Int) : Ann := r0 1 [0, 1, 4] [] (r0 1 [0, 1, 4, 8] [] (cn (decide (x1 < ((x0.length : Nat) : Int))) (r1 1 [0, 1, 4] [] [pf (0 ≤ (x1 : Int) ∧ (x1 : Int) < ((x0.length : Nat) : Int)), pf (inR .i64 (x0.getD x1.toNat default))] [0, 4] (rt [] (C13 (x0.getD x1.toNat default)))) (r1 1 [4] [] [pf (inR .i64 (x1 * 37)), pf (inR .i64 (((x0.length : Nat) : Int) * 11)), pf (inR .i64 ((x1 * 37) + (((x0.length : Nat) : Int) * 11))), pf ((256 : Int) ≠ 0)] [0, 4, 8, 12] (rt [] (C13 (((x1 * 37) + (((x0.length : Nat) : Int) * 11)).tmod 256))))))
theorem at1_rng {b : List Int} (hb : ∀ y ∈ b, 0 ≤ y ∧ y ≤ 255) {i : Int} (hi : 0 ≤ i) : 0 ≤ at1 b i ∧ at1 b i ≤ 255 := by
  unfold at1
  refine cond_both (p := fun (r : Int) => 0 ≤ r ∧ r ≤ 255) (fun _ => getD_byte hb _) (fun _ => ?_)
  rw [Int.tmod_eq_emod_of_nonneg (by omega)]
  omega
theorem ok_laws_at (x0 : List Int) (x1 : Int) (hx : x0.length ≤ 1048576) (hb : ∀ y ∈ x0, 0 ≤ y ∧ y ≤ 255) (hi : 0 ≤ x1 ∧ x1 ≤ 1000) : FnT Tryd.prog 13 [.ro false 1 x0.length (rowOf (cInt .u8) x0), .int .i64 x1] (C13 (at1 x0 x1)) := by
  have aux : ∀ R, at1 x0 x1 = R → slim (C13 R) (A13 x0 x1) [] := by
    intro R hR
    refine rg trivial ?_
    refine rg trivial ?_
    revert hR; refine cd (fun hc1 hR => ?_) fun hc1 hR => ?_
    ·
      refine rg ⟨by ((try clear hR); intros; (try simp only [decide_eq_true_eq, decide_eq_false_iff_not, Bool.or_eq_true, Bool.and_eq_true, or_f_iff, not_f_iff, not_t_iff, Bool.not_eq_true', inR] at *); (repeat' apply And.intro) <;> (intros; omega)), by (have h9 := getD_byte hb x1.toNat; simp only [inR]; omega), trivial⟩ ?_
      exact congrArg C13 hR
    ·
      refine rg ⟨by ( intros; simp only [inR]; omega), by ( intros; simp only [inR]; omega), by ( intros; simp only [inR]; omega), by trivial, trivial⟩ ?_
      exact congrArg C13 hR
  exact Fn.go 21 Tryd.func13 (by kernel_rfl) (by kernel_rfl) (by simp [C13, Frs, FrsL]) (A13 x0 x1) (by kernel_rfl) (aux _ rfl)
def k13 (x0 : List Int) (x1 : Int) : Cl := (hres (C13 (at1 x0 x1)), k3 (ok_laws_at x0 x1))
end Go.Proofs.YtepefimocflfkabDoor
