import Derived.Test.YtepefimocflfkabDoorVT3
set_option maxHeartbeats 4000000
set_option linter.unusedSimpArgs false
set_option linter.unusedVariables false
namespace Go.Proofs.YtepefimocflfkabDoor
open Go Go.Lite Go.Proofs
theorem parseLaw_eq (x : List UInt8) : implParseLaw x = specParseLaw x := by
  unfold implParseLaw specParseLaw
  rw [show splitS x [32] = l1Split x 32 from split_eq x 32]
  generalize l1Split x 32 = P
  cases c : (!decide (((P.length : Nat) : Int) = 16)) with
  | true => rfl
  | false =>
    rw [cond_false, cond_false]
    obtain ⟨A, hA⟩ : ∃ A : Nat → Int, ∀ j, A j = l1Read (P.getD (2 * j + 1) default) := ⟨_, fun _ => rfl⟩
    have e0 : l1Read (P.getD 1 default) = A 0 := (hA 0).symm
    have e1 : l1Read (P.getD 3 default) = A 1 := (hA 1).symm
    have e2 : l1Read (P.getD 5 default) = A 2 := (hA 2).symm
    have e3 : l1Read (P.getD 7 default) = A 3 := (hA 3).symm
    have e4 : l1Read (P.getD 9 default) = A 4 := (hA 4).symm
    have e5 : l1Read (P.getD 11 default) = A 5 := (hA 5).symm
    rw [e0, e1, e2, e3, e4, e5]
    refine loopN_to (fun i (v : List Int) => v.length = 6 ∧ ∀ j, j < i → 0 ≤ A j ∧ v.getD j default = A j) (fun r => r = _) ⟨rfl, fun j h => absurd h (Nat.not_lt_zero _)⟩ (fun i v next hi hv hn => ?_) (fun v hv => ?_)
    · have ei : ((2 * ((i : Nat) : Int)) + 1).toNat = 2 * i + 1 := by omega
      rw [ei, readYear_eq, ← hA]
      by_cases h : 0 ≤ A i
      · rw [decide_eq_true h]
        simp only [cond_true, Bool.not_true, cond_false]
        refine hn _ ⟨by simp [hv.1], fun j hj => ?_⟩
        by_cases e : j = i
        · subst e
          exact ⟨h, by rw [List.getD_eq_getElem?_getD, List.getElem?_set_self (by rw [hv.1]; exact hi)]; rfl⟩
        · obtain ⟨k1, k2⟩ := hv.2 j (by omega)
          exact ⟨k1, by rw [List.getD_eq_getElem?_getD, List.getElem?_set_ne (Ne.symm e), ← List.getD_eq_getElem?_getD]; exact k2⟩
      · rw [decide_eq_false h]
        simp only [Bool.not_false, cond_true, cond_false]
        generalize (P.getD 13 default == [121, 101, 115]) = p
        generalize (P.getD 15 default == [121, 101, 115]) = q
        have hl : specIsLaw (Law.mk (A 0) (A 1) (A 2) (A 3) (A 4) (A 5) p q) = false := by
          cases hq : specIsLaw (Law.mk (A 0) (A 1) (A 2) (A 3) (A 4) (A 5) p q) with
          | false => rfl
          | true =>
            exfalso
            have b := law_bds hq
            dsimp only at b
            have hi6 : i = 0 ∨ i = 1 ∨ i = 2 ∨ i = 3 ∨ i = 4 ∨ i = 5 := by omega
            rcases hi6 with rfl | rfl | rfl | rfl | rfl | rfl <;> omega
        rw [hl]; rfl
    · rw [(hv.2 0 (by decide)).2, (hv.2 1 (by decide)).2, (hv.2 2 (by decide)).2, (hv.2 3 (by decide)).2, (hv.2 4 (by decide)).2, (hv.2 5 (by decide)).2, lawT_eq, fmtLaw_eq]
end Go.Proofs.YtepefimocflfkabDoor
