import Derived.Test.YtmefknjcgdbceaaDoorVD2
set_option maxHeartbeats 4000000
set_option linter.unusedSimpArgs false
set_option linter.unusedVariables false
namespace Go.Proofs.YtmefknjcgdbceaaDoor
open Go Go.Lite Go.Proofs
theorem format_two {k : Int} (hk : 0 ≤ k ∧ k ≤ 4) : specFormat (Custom.mk k true false) ≠ specFormat (Custom.mk k false true) := by
  have h : k = 0 ∨ k = 1 ∨ k = 2 ∨ k = 3 ∨ k = 4 := by omega
  rcases h with rfl | rfl | rfl | rfl | rfl <;> decide +kernel
theorem four_eq {α : Type} {a b c d : Bool} {A B C D E : α} (h : ¬ (b = true ∧ c = true)) :
    (bif a then A else bif b then B else bif c then C else bif d then D else E) = (bif a then A else bif c then C else bif b then B else bif d then D else E) := by
  cases a <;> cases b <;> cases c <;> cases d <;> first | rfl | exact absurd ⟨rfl, rfl⟩ h
theorem parse_step {k : Int} (hk : 0 ≤ k ∧ k ≤ 4) (s : List UInt8) (E : Custom × Bool) :
    loopN (fun i2 (v2 : Unit) nx2 => loopN (fun i3 (v3 : Unit) next => bif ((implFormat (Custom.mk k ([false, true].getD i2 default) ([false, true].getD i3 default))) == s) then ((Custom.mk k ([false, true].getD i2 default) ([false, true].getD i3 default)), true) else (next ())) (fun (v3 : Unit) => nx2 ()) 2 0 ()) (fun (v2 : Unit) => E) 2 0 () =
    loopN (fun i2 (v2 : Unit) next => bif ((specFormat (Custom.mk k (decide ((((i2 : Nat) : Int).tmod 2) = 1)) (decide (1 < ((i2 : Nat) : Int))))) == s) then ((Custom.mk k (decide ((((i2 : Nat) : Int).tmod 2) = 1)) (decide (1 < ((i2 : Nat) : Int)))), true) else (next ())) (fun (v2 : Unit) => E) 4 0 () := by
  have h := four_eq (a := specFormat (Custom.mk k false false) == s) (b := specFormat (Custom.mk k false true) == s) (c := specFormat (Custom.mk k true false) == s) (d := specFormat (Custom.mk k true true) == s)
    (A := (Custom.mk k false false, true)) (B := (Custom.mk k false true, true)) (C := (Custom.mk k true false, true)) (D := (Custom.mk k true true, true)) (E := E)
    (fun hh => format_two hk ((beq_iff_eq.1 hh.2).trans (beq_iff_eq.1 hh.1).symm))
  exact h
theorem parse_eq (s : List UInt8) : implParse s = specParse s := by
  unfold implParse specParse
  suffices h : ∀ (m : Nat) (v : Int), 0 ≤ v → loopW (fun (v1 : Int) nx1 => bif (decide (v1 ≤ 4)) then (loopN (fun i2 (v2 : Unit) nx2 => loopN (fun i3 (v3 : Unit) next => bif ((implFormat (Custom.mk v1 ([false, true].getD i2 default) ([false, true].getD i3 default))) == s) then ((Custom.mk v1 ([false, true].getD i2 default) ([false, true].getD i3 default)), true) else (next ())) (fun (v3 : Unit) => nx2 ()) 2 0 ()) (fun (v2 : Unit) => nx1 (v1 + 1)) 2 0 ()) else ((Custom.mk 0 false false), false)) m v =
      loopW (fun (v1 : Int) nx1 => bif (decide (v1 ≤ 4)) then (loopN (fun i2 (v2 : Unit) next => bif ((specFormat (Custom.mk v1 (decide ((((i2 : Nat) : Int).tmod 2) = 1)) (decide (1 < ((i2 : Nat) : Int))))) == s) then ((Custom.mk v1 (decide ((((i2 : Nat) : Int).tmod 2) = 1)) (decide (1 < ((i2 : Nat) : Int)))), true) else (next ())) (fun (v2 : Unit) => nx1 (v1 + 1)) 4 0 ()) else ((Custom.mk 0 false false), false)) m v from h _ _ (by omega)
  intro m
  induction m with
  | zero => intro v _; rfl
  | succ m ih =>
    intro v hv
    rw [loopW, loopW]
    cases hd : decide (v ≤ 4) with
    | false => rfl
    | true =>
      simp only [cond_true]
      rw [ih (v + 1) (by omega)]
      exact parse_step ⟨hv, of_decide_eq_true hd⟩ s _
end Go.Proofs.YtmefknjcgdbceaaDoor
