/- The law FnKinship of the program returns true on every draw within the bulk. -/
import Derived.Test.YtanpfncfphpddabRows
import Derived.Test.YtanpfncfphpddabM50
import Derived.Test.YtanpfncfphpddabLiteR
import Derived.WalkKit
import Derived.ProofKit
import Derived.OpenShut
import Derived.JoinedCond
set_option maxHeartbeats 4000000
set_option linter.unusedSimpArgs false
set_option linter.unusedVariables false
namespace Go.Proofs.Ytanpfncfphpddab
open Go Go.Lite Go.Proofs Go.ChangeShapes Go.WideShapes Go.ChangeAt Go.RowKit
def C7 (R : Bool) : LV × List (Nat × BC) := (.bool R, [])
def laws_FnKinship_m (x0 : List Int) : Bool := bif (decide (1048576 < ((x0.length : Nat) : Int))) then true else (bif (((!((decide (((implKinship (crowd x0 16) (who x0 1 (crowd x0 16)) (who x0 2 (crowd x0 16))).num) = ((implKinship (crowd x0 16) (who x0 2 (crowd x0 16)) (who x0 1 (crowd x0 16))).num))) && ((decide (((implKinship (crowd x0 16) (who x0 1 (crowd x0 16)) (who x0 2 (crowd x0 16))).exp) = ((implKinship (crowd x0 16) (who x0 2 (crowd x0 16)) (who x0 1 (crowd x0 16))).exp))) && true))) || (!((decide (((implKinship (crowd x0 16) (who x0 1 (crowd x0 16)) (who x0 2 (crowd x0 16))).num) = 0)) == (decide ((((implCommon (crowd x0 16) (who x0 1 (crowd x0 16)) (who x0 2 (crowd x0 16))).length : Nat) : Int) = 0))))) || (decide (((implKinship (crowd x0 16) (who x0 1 (crowd x0 16)) (who x0 2 (crowd x0 16))).num) < 0))) then false else (bif (decide ((who x0 1 (crowd x0 16)) = (who x0 2 (crowd x0 16)))) then (((implAdd (implKinship (crowd x0 16) (who x0 1 (crowd x0 16)) (who x0 2 (crowd x0 16))) (implKinship (crowd x0 16) (who x0 1 (crowd x0 16)) (who x0 2 (crowd x0 16)))).2) && ((decide ((((implAdd (implKinship (crowd x0 16) (who x0 1 (crowd x0 16)) (who x0 2 (crowd x0 16))) (implKinship (crowd x0 16) (who x0 1 (crowd x0 16)) (who x0 2 (crowd x0 16)))).1).num) = (((implAdd (implInbreeding (crowd x0 16) (who x0 1 (crowd x0 16))) (Dyad.mk 1 0)).1).num))) && ((decide ((((implAdd (implKinship (crowd x0 16) (who x0 1 (crowd x0 16)) (who x0 2 (crowd x0 16))) (implKinship (crowd x0 16) (who x0 1 (crowd x0 16)) (who x0 2 (crowd x0 16)))).1).exp) = (((implAdd (implInbreeding (crowd x0 16) (who x0 1 (crowd x0 16))) (Dyad.mk 1 0)).1).exp))) && true))) else (bif (lawHas (specAncestors (crowd x0 16) (who x0 2 (crowd x0 16))) (who x0 1 (crowd x0 16))) then true else (loopN (fun i1 (v1 : Int × Int) next => next (((implAdd (Dyad.mk v1.1 v1.2) (implKinship (crowd x0 16) ((specParents (crowd x0 16) (who x0 1 (crowd x0 16))).getD i1 default) (who x0 2 (crowd x0 16)))).1).num, ((implAdd (Dyad.mk v1.1 v1.2) (implKinship (crowd x0 16) ((specParents (crowd x0 16) (who x0 1 (crowd x0 16))).getD i1 default) (who x0 2 (crowd x0 16)))).1).exp)) (fun (v1 : Int × Int) => ((implAdd (implKinship (crowd x0 16) (who x0 1 (crowd x0 16)) (who x0 2 (crowd x0 16))) (implKinship (crowd x0 16) (who x0 1 (crowd x0 16)) (who x0 2 (crowd x0 16)))).2) && ((decide ((((implAdd (implKinship (crowd x0 16) (who x0 1 (crowd x0 16)) (who x0 2 (crowd x0 16))) (implKinship (crowd x0 16) (who x0 1 (crowd x0 16)) (who x0 2 (crowd x0 16)))).1).num) = v1.1)) && ((decide ((((implAdd (implKinship (crowd x0 16) (who x0 1 (crowd x0 16)) (who x0 2 (crowd x0 16))) (implKinship (crowd x0 16) (who x0 1 (crowd x0 16)) (who x0 2 (crowd x0 16)))).1).exp) = v1.2)) && true))) ((specParents (crowd x0 16) (who x0 1 (crowd x0 16))).length) 0 (0, 0)))))
def D7b1 (x0 : List Int) (i1 : Nat) (v1 : Int × Int) : Dl := ⟨[(86, .int .i64 ((i1 : Nat) : Int))], [(7, .var [.int .i64 v1.1, .int .i64 v1.2])]⟩
def A7b1 (x0 : List Int) (i1 : Nat) (v1 : Int × Int) : Ann := r0 1 [2, 3, 5, 6, 7, 84, 85, 86, 87] [3, 6, 7, 1018, 1084, 2018] (cn (decide (((i1 : Nat) : Int) < (((specParents (crowd x0 16) (who x0 1 (crowd x0 16))).length : Nat) : Int))) (r1 1 [2, 3, 5, 6, 7, 11, 84, 85, 86] [3, 6, 7, 1018, 1084, 2018] [pf (0 ≤ (((i1 : Nat) : Int) : Int) ∧ (((i1 : Nat) : Int) : Int) < (((specParents (crowd x0 16) (who x0 1 (crowd x0 16))).length : Nat) : Int))] [0] (.reg 1 [] [(4, k26 (crowd x0 16) ((specParents (crowd x0 16) (who x0 1 (crowd x0 16))).getD i1 default) (who x0 2 (crowd x0 16))), (5, k28 (Dyad.mk v1.1 v1.2) (implKinship (crowd x0 16) ((specParents (crowd x0 16) (who x0 1 (crowd x0 16))).getD i1 default) (who x0 2 (crowd x0 16))))] [2, 3, 5, 6, 7, 84, 85, 86] [3, 6, 7, 1018, 1084, 2018] [] [] [] [0, 4] (r1 1 [2, 3, 5, 6, 7, 84, 85, 86] [3, 6, 7, 1018, 1084, 2018] [pf (inR .i64 (((i1 : Nat) : Int) + 1))] [0] (.next 0 [] (D7b1 x0 (i1 + 1) (((implAdd (Dyad.mk v1.1 v1.2) (implKinship (crowd x0 16) ((specParents (crowd x0 16) (who x0 1 (crowd x0 16))).getD i1 default) (who x0 2 (crowd x0 16)))).1).num, ((implAdd (Dyad.mk v1.1 v1.2) (implKinship (crowd x0 16) ((specParents (crowd x0 16) (who x0 1 (crowd x0 16))).getD i1 default) (who x0 2 (crowd x0 16)))).1).exp)))))) (.reg 2 [] [(2, k28 (implKinship (crowd x0 16) (who x0 1 (crowd x0 16)) (who x0 2 (crowd x0 16))) (implKinship (crowd x0 16) (who x0 1 (crowd x0 16)) (who x0 2 (crowd x0 16))))] [2] [] [(implAdd (implKinship (crowd x0 16) (who x0 1 (crowd x0 16)) (who x0 2 (crowd x0 16))) (implKinship (crowd x0 16) (who x0 1 (crowd x0 16)) (who x0 2 (crowd x0 16)))).2] [] [] [0, 1, 1, 1] (rt [] (C7 (((implAdd (implKinship (crowd x0 16) (who x0 1 (crowd x0 16)) (who x0 2 (crowd x0 16))) (implKinship (crowd x0 16) (who x0 1 (crowd x0 16)) (who x0 2 (crowd x0 16)))).2) && ((decide ((((implAdd (implKinship (crowd x0 16) (who x0 1 (crowd x0 16)) (who x0 2 (crowd x0 16))) (implKinship (crowd x0 16) (who x0 1 (crowd x0 16)) (who x0 2 (crowd x0 16)))).1).num) = v1.1)) && ((decide ((((implAdd (implKinship (crowd x0 16) (who x0 1 (crowd x0 16)) (who x0 2 (crowd x0 16))) (implKinship (crowd x0 16) (who x0 1 (crowd x0 16)) (who x0 2 (crowd x0 16)))).1).exp) = v1.2)) && true)))))))
def A7 (x0 : List Int) : Ann := r0 1 [0, 2] [] (r0 1 [0, 2, 16] [] (cn (decide (1048576 < ((x0.length : Nat) : Int))) (r0 1 [0, 2] [] (rt [] (C7 true))) (.reg 4 [] [(1, k24 x0 16), (1002, k25 x0 1 (crowd x0 16)), (2002, k25 x0 2 (crowd x0 16)), (3003, k26 (crowd x0 16) (who x0 1 (crowd x0 16)) (who x0 2 (crowd x0 16)))] [2, 3, 4, 5, 6] [3, 6, 1018, 2018] [] [] [] [0, 4, 8, 12] (.reg 1 [] [(4, k26 (crowd x0 16) (who x0 2 (crowd x0 16)) (who x0 1 (crowd x0 16))), (13, cg (!(!((decide (((implKinship (crowd x0 16) (who x0 1 (crowd x0 16)) (who x0 2 (crowd x0 16))).num) = ((implKinship (crowd x0 16) (who x0 2 (crowd x0 16)) (who x0 1 (crowd x0 16))).num))) && ((decide (((implKinship (crowd x0 16) (who x0 1 (crowd x0 16)) (who x0 2 (crowd x0 16))).exp) = ((implKinship (crowd x0 16) (who x0 2 (crowd x0 16)) (who x0 1 (crowd x0 16))).exp))) && true)))) (k21 (crowd x0 16) (who x0 1 (crowd x0 16)) (who x0 2 (crowd x0 16))))] [2, 3, 4, 5, 6, 51] [3, 6, 1018, 2018] [!(!((decide (((implKinship (crowd x0 16) (who x0 1 (crowd x0 16)) (who x0 2 (crowd x0 16))).num) = ((implKinship (crowd x0 16) (who x0 2 (crowd x0 16)) (who x0 1 (crowd x0 16))).num))) && ((decide (((implKinship (crowd x0 16) (who x0 1 (crowd x0 16)) (who x0 2 (crowd x0 16))).exp) = ((implKinship (crowd x0 16) (who x0 2 (crowd x0 16)) (who x0 1 (crowd x0 16))).exp))) && true))), !((decide (((implKinship (crowd x0 16) (who x0 1 (crowd x0 16)) (who x0 2 (crowd x0 16))).num) = ((implKinship (crowd x0 16) (who x0 2 (crowd x0 16)) (who x0 1 (crowd x0 16))).num))) && ((decide (((implKinship (crowd x0 16) (who x0 1 (crowd x0 16)) (who x0 2 (crowd x0 16))).exp) = ((implKinship (crowd x0 16) (who x0 2 (crowd x0 16)) (who x0 1 (crowd x0 16))).exp))) && true)), !((!((decide (((implKinship (crowd x0 16) (who x0 1 (crowd x0 16)) (who x0 2 (crowd x0 16))).num) = ((implKinship (crowd x0 16) (who x0 2 (crowd x0 16)) (who x0 1 (crowd x0 16))).num))) && ((decide (((implKinship (crowd x0 16) (who x0 1 (crowd x0 16)) (who x0 2 (crowd x0 16))).exp) = ((implKinship (crowd x0 16) (who x0 2 (crowd x0 16)) (who x0 1 (crowd x0 16))).exp))) && true))) || (!((decide (((implKinship (crowd x0 16) (who x0 1 (crowd x0 16)) (who x0 2 (crowd x0 16))).num) = 0)) == (decide ((((implCommon (crowd x0 16) (who x0 1 (crowd x0 16)) (who x0 2 (crowd x0 16))).length : Nat) : Int) = 0))))), (!((decide (((implKinship (crowd x0 16) (who x0 1 (crowd x0 16)) (who x0 2 (crowd x0 16))).num) = ((implKinship (crowd x0 16) (who x0 2 (crowd x0 16)) (who x0 1 (crowd x0 16))).num))) && ((decide (((implKinship (crowd x0 16) (who x0 1 (crowd x0 16)) (who x0 2 (crowd x0 16))).exp) = ((implKinship (crowd x0 16) (who x0 2 (crowd x0 16)) (who x0 1 (crowd x0 16))).exp))) && true))) || (!((decide (((implKinship (crowd x0 16) (who x0 1 (crowd x0 16)) (who x0 2 (crowd x0 16))).num) = 0)) == (decide ((((implCommon (crowd x0 16) (who x0 1 (crowd x0 16)) (who x0 2 (crowd x0 16))).length : Nat) : Int) = 0))))] [] [] [0, 1, 1, 1, 1, 1, 4, 1, 1, 1, 1, 6, 9, 9, 14] (cn (((!((decide (((implKinship (crowd x0 16) (who x0 1 (crowd x0 16)) (who x0 2 (crowd x0 16))).num) = ((implKinship (crowd x0 16) (who x0 2 (crowd x0 16)) (who x0 1 (crowd x0 16))).num))) && ((decide (((implKinship (crowd x0 16) (who x0 1 (crowd x0 16)) (who x0 2 (crowd x0 16))).exp) = ((implKinship (crowd x0 16) (who x0 2 (crowd x0 16)) (who x0 1 (crowd x0 16))).exp))) && true))) || (!((decide (((implKinship (crowd x0 16) (who x0 1 (crowd x0 16)) (who x0 2 (crowd x0 16))).num) = 0)) == (decide ((((implCommon (crowd x0 16) (who x0 1 (crowd x0 16)) (who x0 2 (crowd x0 16))).length : Nat) : Int) = 0))))) || (decide (((implKinship (crowd x0 16) (who x0 1 (crowd x0 16)) (who x0 2 (crowd x0 16))).num) < 0))) (r0 1 [2, 3, 4, 5, 6] [3, 6, 1018, 2018] (rt [] (C7 false))) (r0 1 [2, 3, 4, 5, 6, 7] [3, 6, 7, 1018, 2018] (r0 1 [2, 3, 4, 5, 6, 7, 55] [3, 6, 7, 1018, 2018] (cn (decide ((who x0 1 (crowd x0 16)) = (who x0 2 (crowd x0 16)))) (.reg 4 [] [(2, k27 (crowd x0 16) (who x0 1 (crowd x0 16))), (1002, k28 (implInbreeding (crowd x0 16) (who x0 1 (crowd x0 16))) (Dyad.mk 1 0)), (2002, k28 (implKinship (crowd x0 16) (who x0 1 (crowd x0 16)) (who x0 2 (crowd x0 16))) (implKinship (crowd x0 16) (who x0 1 (crowd x0 16)) (who x0 2 (crowd x0 16))))] [2, 3, 4, 5, 6, 7] [3, 6, 7, 1018, 2018] [(implAdd (implKinship (crowd x0 16) (who x0 1 (crowd x0 16)) (who x0 2 (crowd x0 16))) (implKinship (crowd x0 16) (who x0 1 (crowd x0 16)) (who x0 2 (crowd x0 16)))).2] [] [] [0, 4, 8, 1, 1, 1] (rt [] (C7 (((implAdd (implKinship (crowd x0 16) (who x0 1 (crowd x0 16)) (who x0 2 (crowd x0 16))) (implKinship (crowd x0 16) (who x0 1 (crowd x0 16)) (who x0 2 (crowd x0 16)))).2) && ((decide ((((implAdd (implKinship (crowd x0 16) (who x0 1 (crowd x0 16)) (who x0 2 (crowd x0 16))) (implKinship (crowd x0 16) (who x0 1 (crowd x0 16)) (who x0 2 (crowd x0 16)))).1).num) = (((implAdd (implInbreeding (crowd x0 16) (who x0 1 (crowd x0 16))) (Dyad.mk 1 0)).1).num))) && ((decide ((((implAdd (implKinship (crowd x0 16) (who x0 1 (crowd x0 16)) (who x0 2 (crowd x0 16))) (implKinship (crowd x0 16) (who x0 1 (crowd x0 16)) (who x0 2 (crowd x0 16)))).1).exp) = (((implAdd (implInbreeding (crowd x0 16) (who x0 1 (crowd x0 16))) (Dyad.mk 1 0)).1).exp))) && true)))))) (.reg 1 [] [(2, k10 (crowd x0 16) (who x0 2 (crowd x0 16))), (4, k29 (specAncestors (crowd x0 16) (who x0 2 (crowd x0 16))) (who x0 1 (crowd x0 16)))] [2, 3, 4, 5, 6, 7, 81] [3, 6, 7, 1018, 2018] [] [] [] [0, 4] (cn (lawHas (specAncestors (crowd x0 16) (who x0 2 (crowd x0 16))) (who x0 1 (crowd x0 16))) (r0 1 [2, 3, 4, 5, 6, 7] [3, 6, 7, 1018, 2018] (rt [] (C7 true))) (.reg 1 [] [(2, k30 (crowd x0 16) (who x0 1 (crowd x0 16)))] [2, 3, 5, 6, 7, 84, 85, 86] [3, 6, 7, 1018, 1084, 2018] [] [] [] [0] (lp (D7b1 x0) [] [] [] (D7b1 x0 0 (0, 0)) (A7b1 x0)))))))))))))
theorem law_FnKinship {x0 : List Int} (hx : x0.length ≤ 1048576 ∧ ∀ y ∈ x0, inR .u8 y) : laws_FnKinship_m x0 = true := by
  have hc := crowd_bd hx 16
  have ha := who_rng (bytes_ok hx).2 (i := 1) (by omega) hc.2.1.1
  have hb := who_rng (bytes_ok hx).2 (i := 2) (by omega) hc.2.1.1
  have hf := hc.1
  unfold laws_FnKinship_m
  revert ha hb hf
  generalize who x0 1 (crowd x0 16) = a
  generalize who x0 2 (crowd x0 16) = b
  generalize crowd x0 16 = x
  intro ha hb hf
  rw [decide_eq_false (by omega)]
  simp only [cond_false]
  have hg := kn_good hf ha hb
  have hn := dy_num hg.1.1.1
  have hcm : implCommon x a b = l8Common x a b := by rw [implCommon_eq, specCommon_of hf ha hb]
  have h0 : decide ((dy (kn x a b)).num = 0) = decide ((((l8Common x a b).length : Nat) : Int) = 0) := by
    rw [decide_eq_decide, hn.2]
    have hp := kn_pos hf 100 a b ha hb (by have := fam_n hf; omega)
    constructor
    · intro h
      cases hl : l8Common x a b with
      | nil => rfl
      | cons q r =>
        have := (l8Common_iff hf ha hb q).1 (by rw [hl]; simp)
        have := hp.2 ⟨q, this⟩
        omega
    · intro h
      rcases Int.lt_or_le 0 (kn x a b) with c | c
      · obtain ⟨q, hq⟩ := hp.1 c
        have := (l8Common_iff hf ha hb q).2 hq
        rw [List.eq_nil_of_length_eq_zero (by omega : (l8Common x a b).length = 0)] at this
        cases this
      · have := hg.1.1.1; omega
  have hsym : implKinship x b a = dy (kn x a b) := by rw [kinship_val hf hb ha, kn_comm]
  rw [hsym, kinship_val hf ha hb, hcm, h0]
  have e1 : (decide ((dy (kn x a b)).num < 0)) = false := decide_eq_false (by omega)
  rw [e1]
  simp only [decide_true, Bool.true_and, Bool.not_true, Bool.or_false, Bool.false_or, beq_self_eq_true, cond_false, Bool.and_true]
  have h2 : kn x a b + kn x a b ≤ 4398046511104 := by have := hg.2; omega
  rw [add_dy hg.1 hg.1 h2]
  simp only [Bool.true_and]
  refine cond_both (p := fun r => r = true) (fun c => ?_) (fun c => cond_both (p := fun r => r = true) (fun _ => rfl) (fun c2 => ?_))
  · have c := of_decide_eq_true c
    subst c
    have hi := inbreeding_val hf ha
    have e3 : implAdd (implInbreeding x a) (Dyad.mk 1 0) = (dy (knp x a + 1099511627776), true) := by
      rw [hi.1, ← dy_one, add_dy hi.2.1 good_one (by have := hi.2.2.1; omega)]
    rw [e3, show kn x a a + kn x a a = knp x a + 1099511627776 by omega]
    simp
  · have c := of_decide_eq_false c
    have hna : ¬ Above x b a := fun h => by
      have hm : lawHas (specAncestors x b) a = true := by
        rw [lawHas_iff]
        unfold specAncestors
        rw [(l1Has_iff x b).2 ⟨hb, hf⟩]
        simp only [Bool.not_true, cond_false]
        rw [fLoop_mem (f := fun i => ((i : Nat) : Int))]
        have hl : (l8Up x b).length = x.people.length := (l8Up_dist x b (isFamily_par x hf) hb).len
        have h9 := (above_iff hf hb ha).2 h
        refine ⟨a.toNat, by omega, decide_eq_true ?_, by omega⟩
        rcases Int.lt_or_eq_of_le h9 with e | e
        · exact e
        · have hd := ((l8Up_dist x b (isFamily_par x hf) hb).yes a.toNat (by omega) h9).1
          rw [← e, show ((a.toNat : Nat) : Int) = a by omega] at hd
          cases hd
          exact absurd rfl c
      rw [hm] at c2; cases c2
    have hs : specParents x a = l1Parents x a := by
      unfold specParents
      rw [(l1Has_iff x a).2 ⟨ha, hf⟩]
      rfl
    rw [hs]
    have hk := kn_up hf 100 a b ha hb (by have := fam_n hf; omega) hna
    have hlen := (l1Parents_rng x a).1
    refine loopN_to (fun i (v : Int × Int) => i ≤ (l1Parents x a).length ∧ Good (sumTo (fun k => kn x ((l1Parents x a).getD k default) b) i) ∧ sumTo (fun k => kn x ((l1Parents x a).getD k default) b) i ≤ i * 1099511627776 ∧ Dyad.mk v.1 v.2 = dy (sumTo (fun k => kn x ((l1Parents x a).getD k default) b) i)) (fun r => r = true) ⟨Nat.zero_le _, ⟨⟨by simp [sumTo], by simp [sumTo]⟩, ⟨0, by simp [sumTo]⟩⟩, by simp [sumTo], rfl⟩ (fun i v next hi hv hn2 => hn2 _ ?_) (fun v hv => ?_)
    · obtain ⟨v1, v2, v3, v4⟩ := hv
      have hp := par_at hf ha hi
      have hq : 0 ≤ (l1Parents x a).getD i default ∧ (l1Parents x a).getD i default < x.people.length := by omega
      have hg2 := kn_good hf hq hb
      have hle : sumTo (fun k => kn x ((l1Parents x a).getD k default) b) i + kn x ((l1Parents x a).getD i default) b ≤ 4398046511104 := by
        have := hg2.2; have : (i : Int) ≤ 2 := by omega
        omega
      simp only [sumTo]
      rw [v4, kinship_val hf hq hb, add_dy v2 hg2.1 hle]
      exact ⟨hi, v2.add hg2.1 hle, by have := hg2.2; omega, rfl⟩
    · obtain ⟨v1, v2, v3, v4⟩ := hv
      have e4 : kn x a b + kn x a b = sumTo (fun k => kn x ((l1Parents x a).getD k default) b) (l1Parents x a).length := by omega
      have e5 := congrArg Dyad.num v4
      have e6 := congrArg Dyad.exp v4
      simp only at e5 e6
      rw [e4, e5, e6]
      simp
theorem ok_laws_FnKinship (x0 : List Int) (hx0 : x0.length ≤ 1048576 ∧ ∀ y ∈ x0, inR .u8 y) : FnT Try.prog 7 [.ro false 1 x0.length (rowOf (cInt .u8) x0)] (C7 true) := by
  have aux : ∀ R, laws_FnKinship_m x0 = R → slim (C7 R) (A7 x0) [] := by
    intro R hR
    refine rg trivial ?_
    refine rg trivial ?_
    revert hR; refine cd (fun hc1 hR => ?_) fun hc1 hR => ?_
    ·
      refine rg trivial ?_
      exact congrArg C7 hR
    ·
      refine rg ⟨⟨by (intros; omega), by (with_reducible exact (bytes_ok hx0).2), by (intros; omega)⟩, ⟨by (intros; omega), by (with_reducible exact (bytes_ok hx0).2), by (intros; omega), by (have h9 := crowd_bd hx0 16; omega)⟩, ⟨by (intros; omega), by (with_reducible exact (bytes_ok hx0).2), by (intros; omega), by (have h9 := crowd_bd hx0 16; omega)⟩, ⟨by (have h9 := crowd_bd hx0 16; omega), by (have h9 := crowd_bd hx0 16; omega), by (with_reducible exact (crowd_bd hx0 16).2.2.2)⟩, trivial⟩ ?_
      refine rg ⟨⟨by (have h9 := crowd_bd hx0 16; omega), by (have h9 := crowd_bd hx0 16; omega), by (with_reducible exact (crowd_bd hx0 16).2.2.2)⟩, fun hg0 => ⟨by (have h9 := crowd_bd hx0 16; omega), by (have h9 := crowd_bd hx0 16; omega), by (with_reducible exact (crowd_bd hx0 16).2.2.2)⟩, trivial⟩ ?_
      revert hR; refine cd (fun hc2 hR => ?_) fun hc2 hR => ?_
      ·
        refine rg trivial ?_
        exact congrArg C7 hR
      ·
        refine rg trivial ?_
        refine rg trivial ?_
        revert hR; refine cd (fun hc3 hR => ?_) fun hc3 hR => ?_
        ·
          refine rg ⟨⟨by (have h9 := crowd_bd hx0 16; omega), by (have h9 := crowd_bd hx0 16; omega), by (with_reducible exact (crowd_bd hx0 16).2.2.2)⟩, trivial, trivial, trivial⟩ ?_
          exact congrArg C7 hR
        ·
          refine rg ⟨⟨by (have h9 := crowd_bd hx0 16; omega), by (have h9 := crowd_bd hx0 16; omega), by (with_reducible exact (crowd_bd hx0 16).2.2.2)⟩, by (have h9 := specAncestors_len (crowd x0 16) (who x0 2 (crowd x0 16)); have h8 := crowd_bd hx0 16; omega), trivial⟩ ?_
          revert hR; refine cd (fun hc4 hR => ?_) fun hc4 hR => ?_
          ·
            refine rg trivial ?_
            exact congrArg C7 hR
          ·
            refine rg ⟨⟨by (have h9 := crowd_bd hx0 16; omega), by (have h9 := crowd_bd hx0 16; omega), by (with_reducible exact (crowd_bd hx0 16).2.2.2)⟩, trivial⟩ ?_
            revert hR; refine lN (fun i v => True) (by exact True.intro) rfl fun i1 v1 F1 hn1 hI1 hR hK1 => ?_
            refine rg trivial ?_
            refine ⟨fun hc5 => ?_, fun hc5 => ?_⟩
            · have hii1 : i1 < (specParents (crowd x0 16) (who x0 1 (crowd x0 16))).length := by have := of_decide_eq_true hc5; omega
              replace hR := loopN_step hR hii1
              refine rg ⟨by (intros; omega), trivial⟩ ?_
              refine rg ⟨⟨by (have h9 := crowd_bd hx0 16; omega), by (have h9 := crowd_bd hx0 16; omega), by (with_reducible exact (crowd_bd hx0 16).2.2.2)⟩, trivial, trivial⟩ ?_
              refine rg ⟨by (have h9 := (l1Parents_rng (crowd x0 16) (who x0 1 (crowd x0 16))).1; have h8 := specParents_len (crowd x0 16) (who x0 1 (crowd x0 16)); simp only [inR]; omega), trivial⟩ ?_
              exact hK1 (((implAdd (Dyad.mk v1.1 v1.2) (implKinship (crowd x0 16) ((specParents (crowd x0 16) (who x0 1 (crowd x0 16))).getD i1 default) (who x0 2 (crowd x0 16)))).1).num, ((implAdd (Dyad.mk v1.1 v1.2) (implKinship (crowd x0 16) ((specParents (crowd x0 16) (who x0 1 (crowd x0 16))).getD i1 default) (who x0 2 (crowd x0 16)))).1).exp) hii1 (by exact True.intro) hR
            · obtain rfl : i1 = (specParents (crowd x0 16) (who x0 1 (crowd x0 16))).length := by have := of_decide_eq_false hc5; omega
              replace hR := loopN_end hR (Nat.lt_irrefl _)
              refine rg ⟨trivial, trivial⟩ ?_
              exact congrArg C7 hR
  exact Fn.go 112 Try.func7 (by kernel_rfl) (by kernel_rfl) (by simp [C7, Frs, FrsL]) (A7 x0) (by kernel_rfl) (aux _ (law_FnKinship hx0))
theorem bulk_pos {H : Type} (d : DataW H) : 1 ≤ Rows.uptoBulk d := by
  cases d with
  | lit l => cases l <;> simp [Rows.uptoBulk]
  | _ => simp [Rows.uptoBulk]
theorem bulkAll_len {H : Type} : ∀ l : List (DataW H), l.length ≤ Rows.uptoBulkAll l
  | [] => by simp
  | d :: l => by
    have := bulk_pos d
    have := bulkAll_len l
    simp only [Rows.uptoBulkAll, List.length_cons]
    omega
theorem bulkAll_mem {H : Type} : ∀ (l : List (DataW H)) (d : DataW H), d ∈ l → Rows.uptoBulk d ≤ Rows.uptoBulkAll l
  | [], d, h => by cases h
  | e :: l, d, h => by
    simp only [Rows.uptoBulkAll]
    rcases List.mem_cons.1 h with e | h
    · rw [e]; omega
    · have := bulkAll_mem l d h
      omega
theorem bulk {H : Type} : Bulk (Rows.uptoBulk (H := H)) where
  str := fun bs => by simp [Rows.uptoBulk]
  slen := fun es sp => by
    have := bulkAll_len es
    simp only [Rows.uptoBulk]
    omega
  sel := fun es sp e he => by
    have := bulkAll_mem es e he
    simp only [Rows.uptoBulk]
    omega
  agg := fun ps p hp => by
    have := bulkAll_mem ps p hp
    simp only [Rows.uptoBulk]
    omega
theorem own : ownKnob Try.prog.godebug = none := by kernel_rfl
theorem laidOut : laidOutB Try.prog = true := by kernel_rfl
set_option maxRecDepth 100000 in
theorem contract (H : Type) (enc : TypeId × Value → H) (W : World) (base : Nat) (args : Array Value) (ds gs : List (DataW H)) (before : List MemPlace)
    (hval : ∀ (j : Nat) t v, Try.f7.params[j]? = some t → args[j]? = some v → Value.okWide Try.prog W .any base t v)
    (hW : DataW.Whole enc Try.prog Try.f7.params.toList Rows.fnKinshipSpec.vars false W args.toList ds gs before) (hk : Rows.uptoSmall H (ds ++ gs) = true) :
    Calls Try.prog 7 args W fun e W' => ∃ v, e = .returned v ∧ Rows.fnKinshipSpec.post enc Try.prog Try.f7 false true false false W args v W' := by
  have hW' := hW
  obtain ⟨p, q, hA0, hV, hpq, hfz, hnd⟩ := hW
  have hA : DataW.TrodAll enc Try.prog W 0 (fun _ => true) true Try.f7.params.toList args.toList ds p := hA0
  clear hA0
  rw [Try.params7] at hA hval
  obtain ⟨v0, vs0, d0, ds0, p0, q0, hargs, rfl, rfl, h0, hA1⟩ := trodAll_cons hA
  obtain ⟨rfl, rfl, rfl⟩ := trodAll_nil hA1
  obtain rfl : args = #[v0] := by cases args; simp_all
  obtain ⟨rfl, rfl⟩ := trodVars_none hV
  obtain ⟨x0, k0, r0⟩ := top_slice (opens_slice bulk (mono_triv (p := fun (n : Int) => inR .u8 n)) Try.underlying41 (sz := 1) (by kernel_rfl) (by omega) (opens_int Try.underlying5)) Try.underlying41 (hval 0 41 v0 rfl rfl) h0
  have kk0 := ((mono_sl (mono_triv (p := fun (n : Int) => inR .u8 n)))) _ _ x0 (show Rows.uptoBulk d0 ≤ 1048576 from Nat.le_trans (bulkAll_mem _ d0 (by simp)) (of_decide_eq_true hk)) k0
  refine (Lite.Fn.true_of (ok_laws_FnKinship x0 kk0) (by rfl) fun i lv v hl hv => ?_).mono fun e W' ⟨he, hb⟩ => ⟨_, he, row_post laidOut (by kernel_rfl) rfl Try.underlying4 rfl rfl hW' hb⟩
  match i, hl, hv with
  | 0, hl, hv => cases hl; cases hv; exact r0
  | _ + 1, hl, _ => simp at hl
set_option maxRecDepth 100000 in
theorem lifted (os : Os) (started : os.Started) (H : Type) (enc : TypeId × Value → H) (F : Stop.Interp) :
    ReturnsInHanded {} Try.checked os 7 .any ((Rows.OpenSpec.upto Rows.fnKinshipSpec).pre6 enc Try.prog Try.f7 Rows.fnKinshipUptoRow.domain false) (((Rows.OpenSpec.upto Rows.fnKinshipSpec).at F).post enc Try.prog Try.f7 false true false false) := by
  refine returnsInHanded_of_cond (C := Try.checked) (s := Rows.OpenSpec.upto Rows.fnKinshipSpec) (k := Rows.uptoSmall) rfl own started (by kernel_rfl) Try.func7
    (OpenSpec.witness (enc := enc) (C := Try.checked) (s := Rows.OpenSpec.upto Rows.fnKinshipSpec) (k := Rows.uptoSmall) rfl false ⟨#[], #[.slice none 0 0], []⟩ 12 (by kernel_rfl) (by kernel_rfl) (by kernel_rfl)
      (x := ([.nil], [], [])) (by kernel_rfl) rfl (by kernel_rfl)) ?_
  intro W base args ds gs before hval hW _ hk _
  exact contract H enc W base args ds gs before hval hW hk
theorem proved : Rows.FnKinshipUptoSaid :=
  OpenClaim.holds_of_cond 7 Try.f7 rfl rfl rfl rfl rfl rfl rfl ⟨rfl, rfl, rfl, rfl, rfl⟩ rfl rfl rfl rfl rfl (by kernel_rfl) Try.func7 (by kernel_rfl)
    (of_decide_eq_true (by kernel_rfl)) (by unfold Func.isWrapper; first | (rw [if_pos (by decide +kernel)]; kernel_rfl) | (rw [if_neg (by decide +kernel)]; exact ⟨rfl, rfl⟩))
    (fun os started H enc _ F => lifted os started H enc F)
end Go.Proofs.Ytanpfncfphpddab
