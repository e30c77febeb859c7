import Derived.Test.YtepefimocflfkabDoorVT1
set_option maxHeartbeats 4000000
set_option linter.unusedSimpArgs false
set_option linter.unusedVariables false
namespace Go.Proofs.YtepefimocflfkabDoor
open Go Go.Lite Go.Proofs
def C24 (R : (List (List UInt8))) : LV × List (Nat × BC) := (.own 0, [(0, .arr 1 R.length (rowOf (cStr) R))])
def splitS (x0 x1 : List UInt8) : List (List UInt8) := pieces (x1.getD 0 0) x0
theorem splitS_len (x0 x1 : List UInt8) : (splitS x0 x1).length ≤ x0.length + 1 := (pieces_len _ _).2
theorem ok_strings_Split (x0 : List UInt8) (x1 : List UInt8) (h : x0.length ≤ 1048576 ∧ x1.length = 1) : FnT Tryd.prog 24 [.str x0, .str x1] (C24 (splitS x0 x1)) := by
  obtain ⟨c, rfl⟩ := List.length_eq_one_iff.1 h.2
  refine Fn.of_strs (T := 9) args_str2 (by have := splitS_len x0 [c]; unfold maxLen; omega) fun w hg => ?_
  obtain ⟨_, _, ⟨m, hm⟩, _⟩ := hg
  refine (Tryd.strings_Split ⟨x0.toArray⟩ ⟨#[c]⟩ m w (by show x0.toArray.size < _; simp; omega) hm (Nat.le_refl 1)).mono fun e w' ⟨he, hw⟩ => ⟨?_, ?_⟩
  · rw [he, pieces_count]; rfl
  · rw [hw, splitB_pieces]; rfl
def k24 (x0 : List UInt8) (x1 : List UInt8) : Cl := (hres (C24 (splitS x0 x1)), k1 (ok_strings_Split x0 x1))
def C33 (R : Int × Bool) : LV × List (Nat × BC) := (.tup [.int .i64 R.1, .er R.2], [])
def atoiE (x0 : List UInt8) : Int × Bool := match Lib.atoi x0 with
  | some n => (n, false)
  | none => (0, true)
theorem atoiE_some {x0 : List UInt8} {n : Int} (e : Lib.atoi x0 = some n) : atoiE x0 = (n, false) := by unfold atoiE; rw [e]
theorem atoiE_none {x0 : List UInt8} (e : Lib.atoi x0 = none) : atoiE x0 = (0, true) := by unfold atoiE; rw [e]
theorem ok_strconv_Atoi (x0 : List UInt8) (h : x0.length ≤ 18) : FnT Tryd.prog 33 [.str x0] (C33 (atoiE x0)) := by
  have hs : (⟨x0.toArray⟩ : ByteArray).size ≤ 18 := by show x0.toArray.size ≤ 18; simpa using h
  cases e : Lib.atoi x0 with
  | some n =>
    rw [atoiE_some e]
    exact Fn.of_intErr args_str fun w _ => (Tryd.strconv_Atoi ⟨x0.toArray⟩ n hs (by simpa using e) w).mono fun e w' ⟨he, t, hw⟩ => ⟨_, he, fun _ => rfl, fun h => (by cases h), by rw [hw]; exact Lib.bytesWorld_below _ _ _⟩
  | none =>
    rw [atoiE_none e]
    refine Fn.of_intErr args_str fun w hg => ?_
    obtain ⟨_, _, _, te, pe, hv⟩ := hg
    exact (Tryd.strconv_Atoi_err ⟨x0.toArray⟩ hs (by simpa using e) _ w hv (.inr ⟨te, pe, rfl⟩)).mono fun e w' ⟨N, he, _, _, hb⟩ => ⟨_, he, fun h => (by cases h), fun _ => ⟨_, _, rfl⟩, hb⟩
def k33 (x0 : List UInt8) : Cl := (hres (C33 (atoiE x0)), k1 (ok_strconv_Atoi x0))
def l1Split (x0 : List UInt8) (x1 : Int) : (List (List UInt8)) := loopN (fun i1 (v1 : (List (List UInt8)) × Int) next => bif (decide (((x0.getD i1 0).toNat : Int) = x1)) then (next ((v1.1 ++ ([(x0.drop v1.2.toNat).take (i1 - v1.2.toNat)] : List (List UInt8))), ((i1 : Nat) : Int) + 1)) else (next (v1.1, v1.2))) (fun (v1 : (List (List UInt8)) × Int) => (v1.1 ++ ([(x0.drop v1.2.toNat).take (x0.length - v1.2.toNat)] : List (List UInt8)))) x0.length 0 (([] : List (List UInt8)), 0)
def l1Read (x0 : List UInt8) : Int := bif (((decide (((x0.length : Nat) : Int) < 1)) || (decide (4 < ((x0.length : Nat) : Int)))) || ((decide (((x0.getD 0 0).toNat : Int) = 48)) && (decide (1 < ((x0.length : Nat) : Int))))) then (-1) else (loopN (fun i1 (v1 : Int) next => bif ((decide (((x0.getD i1 0).toNat : Int) < 48)) || (decide (57 < ((x0.getD i1 0).toNat : Int)))) then (-1) else (next ((10 * v1) + (((x0.getD i1 0).toNat : Int) - 48)))) (fun (v1 : Int) => v1) x0.length 0 0)
def C25 (R : Int × Bool) : LV × List (Nat × BC) := (.tup [.int .i64 R.1, .bool R.2], [])
def readYear (x0 : List UInt8) : Int × Bool := bif ((decide (((x0.length : Nat) : Int) < 1)) || (decide (4 < ((x0.length : Nat) : Int)))) then (0, false) else (bif (((((atoiE x0).2) || (decide (((atoiE x0).1) < 0))) || (decide (9999 < ((atoiE x0).1)))) || (!((itoa ((atoiE x0).1)) == x0))) then (0, false) else ((atoiE x0).1, true))
def A25 (x0 : List UInt8) : Ann := r0 1 [0, 2, 3] [] (.reg 1 [] [] [0, 2, 3, 13] [] [!(decide (((x0.length : Nat) : Int) < 1)), decide (((x0.length : Nat) : Int) < 1)] [] [] [1, 1, 6] (cn ((decide (((x0.length : Nat) : Int) < 1)) || (decide (4 < ((x0.length : Nat) : Int)))) (r0 1 [0, 2, 3] [] (rt [] (C25 (0, false)))) (.reg 1 [] [(1, k33 x0)] [0, 2, 3, 4, 5] [] [] [] [] [0] (.reg 1 [] [(12, cg (!((((atoiE x0).2) || (decide (((atoiE x0).1) < 0))) || (decide (9999 < ((atoiE x0).1))))) (k20 ((atoiE x0).1)))] [2, 3, 4, 34] [] [!((atoiE x0).2), (atoiE x0).2, !(((atoiE x0).2) || (decide (((atoiE x0).1) < 0))), ((atoiE x0).2) || (decide (((atoiE x0).1) < 0)), !((((atoiE x0).2) || (decide (((atoiE x0).1) < 0))) || (decide (9999 < ((atoiE x0).1)))), (((atoiE x0).2) || (decide (((atoiE x0).1) < 0))) || (decide (9999 < ((atoiE x0).1)))] [] [] [1, 6, 9, 14, 17, 0, 17, 17, 22] (cn (((((atoiE x0).2) || (decide (((atoiE x0).1) < 0))) || (decide (9999 < ((atoiE x0).1)))) || (!((itoa ((atoiE x0).1)) == x0))) (r0 1 [2, 3, 4] [] (rt [] (C25 (0, false)))) (r0 1 [2, 3] [] (rt [] (C25 ((atoiE x0).1, true)))))))))
theorem ok_impl_readYear (x0 : List UInt8) : FnT Tryd.prog 25 [.str x0] (C25 (readYear x0)) := by
  have aux : ∀ R, readYear x0 = R → slim (C25 R) (A25 x0) [] := by
    intro R hR
    refine rg trivial ?_
    refine rg trivial ?_
    revert hR; refine cd (fun hc1 hR => ?_) fun hc1 hR => ?_
    ·
      refine rg trivial ?_
      exact congrArg C25 hR
    ·
      refine rg ⟨by ((try clear hR); intros; (try simp only [decide_eq_true_eq, decide_eq_false_iff_not, Bool.or_eq_true, Bool.and_eq_true, or_f_iff, not_f_iff, not_t_iff, Bool.not_eq_true', inR] at *); (repeat' apply And.intro) <;> (intros; omega)), trivial⟩ ?_
      refine rg ⟨fun hg0 => by ((try clear hR); intros; (try simp only [decide_eq_true_eq, decide_eq_false_iff_not, Bool.or_eq_true, Bool.and_eq_true, or_f_iff, not_f_iff, not_t_iff, Bool.not_eq_true', inR] at *); (repeat' apply And.intro) <;> (intros; omega)), trivial⟩ ?_
      revert hR; refine cd (fun hc2 hR => ?_) fun hc2 hR => ?_
      ·
        refine rg trivial ?_
        exact congrArg C25 hR
      ·
        refine rg trivial ?_
        exact congrArg C25 hR
  exact Fn.go 36 Tryd.func25 (by kernel_rfl) (by kernel_rfl) (by simp [C25, Frs, FrsL]) (A25 x0) (by kernel_rfl) (aux _ rfl)
def k25 (x0 : List UInt8) : Cl := (hres (C25 (readYear x0)), k0 (ok_impl_readYear x0))
end Go.Proofs.YtepefimocflfkabDoor
