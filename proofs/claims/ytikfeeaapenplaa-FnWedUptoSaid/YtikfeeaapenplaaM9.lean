import Derived.Test.YtikfeeaapenplaaM8
set_option maxHeartbeats 4000000
set_option linter.unusedSimpArgs false
set_option linter.unusedVariables false
namespace Go.Proofs.Ytikfeeaapenplaa
open Go Go.Lite Go.Proofs
def C149 (R : (List Int)) : LV × List (Nat × BC) := (.own 0, [(0, .arr 1 R.length (rowOf (cInt .i64) R))])
def l8Common (x0 : Family) (x1 : Int) (x2 : Int) : (List Int) := loopN (fun i1 (v1 : (List Int)) next => bif ((decide (0 ≤ ((l8Up x0 x1).getD i1 default))) && (decide (0 ≤ ((l8Up x0 x2).getD i1 default)))) then (next (v1 ++ [((i1 : Nat) : Int)])) else (next v1)) (fun (v1 : (List Int)) => v1) ((l8Up x0 x1).length) 0 ([] : List Int)
def D149b1 (x0 : Family) (x1 : Int) (x2 : Int) (i1 : Nat) (v1 : (List Int)) : Dl := ⟨[(20, .int .i64 ((i1 : Nat) : Int)), (9, .own 20009)], [(20009, .arr 1 v1.length (rowOf (cInt .i64) v1))]⟩
def A149b1 (x0 : Family) (x1 : Int) (x2 : Int) (i1 : Nat) (v1 : (List Int)) : Ann := r0 1 [6, 7, 8, 9, 19, 20, 21] [1013, 1016, 20009] (cn (decide (((i1 : Nat) : Int) < (((l8Up x0 x1).length : Nat) : Int))) (.reg 2 [] [] [6, 7, 8, 9, 10, 19, 20, 34] [1013, 1016, 20009] [decide (0 ≤ ((l8Up x0 x1).getD i1 default))] [pf (0 ≤ (((i1 : Nat) : Int) : Int) ∧ (((i1 : Nat) : Int) : Int) < (((l8Up x0 x1).length : Nat) : Int)), gt (decide (0 ≤ ((l8Up x0 x1).getD i1 default))) (pf (0 ≤ (((i1 : Nat) : Int) : Int) ∧ (((i1 : Nat) : Int) : Int) < (((l8Up x0 x2).length : Nat) : Int)))] [] [0, 1, 1, 4, 1, 1, 1] (cn ((decide (0 ≤ ((l8Up x0 x1).getD i1 default))) && (decide (0 ≤ ((l8Up x0 x2).getD i1 default)))) (.reg 1 [] [(2, bsC 37 (cInt .i64) ([((i1 : Nat) : Int)] : List Int)), (3, ap1 38 (cInt .i64) 8 v1 ((i1 : Nat) : Int))] [6, 7, 8, 9, 19, 20] [38, 1013, 1016] [] [] [] [0, 4] (r1 1 [6, 7, 8, 9, 19, 20] [38, 1013, 1016] [pf (inR .i64 (((i1 : Nat) : Int) + 1))] [0] (.next 0 [(20009, some 38)] (D149b1 x0 x1 x2 (i1 + 1) (v1 ++ [((i1 : Nat) : Int)]))))) (r1 1 [6, 7, 8, 9, 19, 20] [1013, 1016, 20009] [pf (inR .i64 (((i1 : Nat) : Int) + 1))] [0] (.next 0 [(20009, some 20009)] (D149b1 x0 x1 x2 (i1 + 1) v1))))) (r0 1 [6] [20009] (rt [(0, some 20009)] (C149 v1))))
def A149 (x0 : Family) (x1 : Int) (x2 : Int) : Ann := .reg 4 [] [(1002, k121 x0 x1), (2002, k121 x0 x2), (3000, bsC 17 (cInt .i64) ([] : List Int))] [6, 7, 8, 9] [17, 1013, 1016] [] [] [] [0, 4, 8] (r0 1 [6, 7, 8, 9, 19, 20] [17, 1013, 1016] (lp (D149b1 x0 x1 x2) [] [17] [(20009, some 17)] (D149b1 x0 x1 x2 0 ([] : List Int)) (A149b1 x0 x1 x2)))
theorem ok_spec_l8Common (x0 : Family) (x1 : Int) (x2 : Int) (hx : x0.people.length ≤ 1048576) (hi : 0 ≤ x1 ∧ x1 < x0.people.length) (hj : 0 ≤ x2 ∧ x2 < x0.people.length) (hp : ∀ (k : Nat), k < x0.people.length → (x0.people.getD k default).father < k ∧ (x0.people.getD k default).mother < k) : FnT Try.prog 149 [.agg (cFamily false x0), .int .i64 x1, .int .i64 x2] (C149 (l8Common x0 x1 x2)) := by
  have aux : ∀ R, l8Common x0 x1 x2 = R → slim (C149 R) (A149 x0 x1 x2) [] := by
    intro R hR
    refine rg ⟨⟨by trivial, by trivial, by trivial⟩, ⟨by trivial, by trivial, by trivial⟩, trivial, trivial⟩ ?_
    have hp1 := l8Up_len x0 x1
    have hp2 := l8Up_len x0 x2
    refine rg trivial ?_
    revert hR; refine lN (fun i v => v.length ≤ i) (by trivial) rfl fun i1 v1 F1 hn1 hI1 hR hK1 => ?_
    refine rg trivial ?_
    refine ⟨fun hc1 => ?_, fun hc1 => ?_⟩
    · have hii1 : i1 < (l8Up x0 x1).length := by have := of_decide_eq_true hc1; omega
      replace hR := loopN_step hR hii1
      refine rg ⟨by (intros; omega), by (intros; omega), trivial⟩ ?_
      revert hR; refine cd (fun hc2 hR => ?_) fun hc2 hR => ?_
      ·
        refine rg ⟨trivial, by omega, trivial⟩ ?_
        refine rg ⟨by ( intros; simp only [inR]; omega), trivial⟩ ?_
        exact hK1 (v1 ++ [((i1 : Nat) : Int)]) hii1 (by (simp; omega)) hR
      ·
        refine rg ⟨by ( intros; simp only [inR]; omega), trivial⟩ ?_
        exact hK1 v1 hii1 (by (intros; omega)) hR
    · obtain rfl : i1 = (l8Up x0 x1).length := by have := of_decide_eq_false hc1; omega
      replace hR := loopN_end hR (Nat.lt_irrefl _)
      refine rg trivial ?_
      exact congrArg C149 hR
  exact Fn.go 41 Try.func149 (by kernel_rfl) (by kernel_rfl) (by simp [C149, Frs, FrsL, FrsB, rowOf, cInt, cBool, cStr, cSl, FrsL_app, cPerson, cUnion, cFamily]) (A149 x0 x1 x2) (by kernel_rfl) (aux _ rfl)
def k149 (x0 : Family) (x1 : Int) (x2 : Int) : Cl := (hres (C149 (l8Common x0 x1 x2)), k4 (ok_spec_l8Common x0 x1 x2))
def C100 (R : (List Int)) : LV × List (Nat × BC) := (.own 0, [(0, .arr 1 R.length (rowOf (cInt .i64) R))])
def commonAncestors (x0 : Family) (x1 : Int) (x2 : Int) : (List Int) := loopN (fun i1 (v1 : (List Int)) next => bif ((decide (0 ≤ ((stepsUp x0 x1).getD i1 default))) && (decide (0 ≤ ((stepsUp x0 x2).getD i1 default)))) then (next (v1 ++ [((i1 : Nat) : Int)])) else (next v1)) (fun (v1 : (List Int)) => v1) x0.people.length 0 ([] : List Int)
def D100b1 (x0 : Family) (x1 : Int) (x2 : Int) (i1 : Nat) (v1 : (List Int)) : Dl := ⟨[(20, .int .i64 ((i1 : Nat) : Int)), (9, .own 20009)], [(20009, .arr 1 v1.length (rowOf (cInt .i64) v1))]⟩
def A100b1 (x0 : Family) (x1 : Int) (x2 : Int) (i1 : Nat) (v1 : (List Int)) : Ann := r0 1 [6, 7, 8, 9, 19, 20, 21] [1013, 1016, 20009] (cn (decide (((i1 : Nat) : Int) < ((x0.people.length : Nat) : Int))) (.reg 2 [] [] [6, 7, 8, 9, 10, 19, 20, 34] [1013, 1016, 20009] [decide (0 ≤ ((stepsUp x0 x1).getD i1 default))] [pf (0 ≤ (((i1 : Nat) : Int) : Int) ∧ (((i1 : Nat) : Int) : Int) < (((stepsUp x0 x1).length : Nat) : Int)), gt (decide (0 ≤ ((stepsUp x0 x1).getD i1 default))) (pf (0 ≤ (((i1 : Nat) : Int) : Int) ∧ (((i1 : Nat) : Int) : Int) < (((stepsUp x0 x2).length : Nat) : Int)))] [] [0, 1, 1, 4, 1, 1, 1] (cn ((decide (0 ≤ ((stepsUp x0 x1).getD i1 default))) && (decide (0 ≤ ((stepsUp x0 x2).getD i1 default)))) (.reg 1 [] [(2, bsC 37 (cInt .i64) ([((i1 : Nat) : Int)] : List Int)), (3, ap1 38 (cInt .i64) 8 v1 ((i1 : Nat) : Int))] [6, 7, 8, 9, 19, 20] [38, 1013, 1016] [] [] [] [0, 4] (r1 1 [6, 7, 8, 9, 19, 20] [38, 1013, 1016] [pf (inR .i64 (((i1 : Nat) : Int) + 1))] [0] (.next 0 [(20009, some 38)] (D100b1 x0 x1 x2 (i1 + 1) (v1 ++ [((i1 : Nat) : Int)]))))) (r1 1 [6, 7, 8, 9, 19, 20] [1013, 1016, 20009] [pf (inR .i64 (((i1 : Nat) : Int) + 1))] [0] (.next 0 [(20009, some 20009)] (D100b1 x0 x1 x2 (i1 + 1) v1))))) (r0 1 [6] [20009] (rt [(0, some 20009)] (C100 v1))))
def A100 (x0 : Family) (x1 : Int) (x2 : Int) : Ann := .reg 3 [] [(1002, k99 x0 x1), (1005, k99 x0 x2)] [3, 6, 7, 8, 9] [3, 1013, 1016] [] [] [] [0, 4] (r0 1 [6, 7, 8, 9, 19, 20] [1013, 1016] (lp (D100b1 x0 x1 x2) [] [] [(20009, none)] (D100b1 x0 x1 x2 0 ([] : List Int)) (A100b1 x0 x1 x2)))
theorem ok_impl_commonAncestors (x0 : Family) (x1 : Int) (x2 : Int) (hx : x0.people.length ≤ 1048576) (hi : 0 ≤ x1 ∧ x1 < x0.people.length) (hj : 0 ≤ x2 ∧ x2 < x0.people.length) (hp : ∀ (k : Nat), k < x0.people.length → (x0.people.getD k default).father < k ∧ (x0.people.getD k default).mother < k) : FnT Try.prog 100 [.agg (cFamily false x0), .int .i64 x1, .int .i64 x2] (C100 (commonAncestors x0 x1 x2)) := by
  have aux : ∀ R, commonAncestors x0 x1 x2 = R → slim (C100 R) (A100 x0 x1 x2) [] := by
    intro R hR
    refine rg ⟨⟨by trivial, by trivial, by trivial⟩, ⟨by trivial, by trivial, by trivial⟩, trivial⟩ ?_
    refine rg trivial ?_
    revert hR; refine lN (fun i v => v.length ≤ i) (by trivial) rfl fun i1 v1 F1 hn1 hI1 hR hK1 => ?_
    refine rg trivial ?_
    refine ⟨fun hc1 => ?_, fun hc1 => ?_⟩
    · have hii1 : i1 < x0.people.length := by have := of_decide_eq_true hc1; omega
      replace hR := loopN_step hR hii1
      refine rg ⟨by (have := stepsUp_len x0 x1 hp hi; have := stepsUp_len x0 x2 hp hj; omega), by (have := stepsUp_len x0 x1 hp hi; have := stepsUp_len x0 x2 hp hj; omega), trivial⟩ ?_
      revert hR; refine cd (fun hc2 hR => ?_) fun hc2 hR => ?_
      ·
        refine rg ⟨trivial, by omega, trivial⟩ ?_
        refine rg ⟨by ( intros; simp only [inR]; omega), trivial⟩ ?_
        exact hK1 (v1 ++ [((i1 : Nat) : Int)]) hii1 (by (simp; omega)) hR
      ·
        refine rg ⟨by ( intros; simp only [inR]; omega), trivial⟩ ?_
        exact hK1 v1 hii1 (by (intros; omega)) hR
    · obtain rfl : i1 = x0.people.length := by have := of_decide_eq_false hc1; omega
      replace hR := loopN_end hR (Nat.lt_irrefl _)
      refine rg trivial ?_
      exact congrArg C100 hR
  exact Fn.go 41 Try.func100 (by kernel_rfl) (by kernel_rfl) (by simp [C100, Frs, FrsL, FrsB, rowOf, cInt, cBool, cStr, cSl, FrsL_app, cPerson, cUnion, cFamily]) (A100 x0 x1 x2) (by kernel_rfl) (aux _ rfl)
def k100 (x0 : Family) (x1 : Int) (x2 : Int) : Cl := (hres (C100 (commonAncestors x0 x1 x2)), k4 (ok_impl_commonAncestors x0 x1 x2))
def C143 (R : (List Int)) : LV × List (Nat × BC) := (.own 0, [(0, .arr 1 R.length (rowOf (cInt .i64) R))])
def specCommon (x0 : Family) (x1 : Int) (x2 : Int) : (List Int) := bif ((!(l1Has x0 x1)) || (!(l1Has x0 x2))) then ([] : List Int) else (l8Common x0 x1 x2)
def A143 (x0 : Family) (x1 : Int) (x2 : Int) : Ann := r0 1 [1, 2, 3, 6] [3] (.reg 1 [] [(2, k54 x0 x1), (7, cg (!(!(l1Has x0 x1))) (k54 x0 x2))] [1, 2, 3, 6, 16] [3] [!(!(l1Has x0 x1)), !(l1Has x0 x1)] [] [] [0, 1, 1, 4, 1, 6] (cn ((!(l1Has x0 x1)) || (!(l1Has x0 x2))) (r0 1 [1, 2, 3, 6] [3] (rt [(0, none)] (C143 ([] : List Int)))) (.reg 1 [] [(3, k149 x0 x1 x2)] [6] [1020] [] [] [] [0] (rt [(0, some 1020)] (C143 (l8Common x0 x1 x2))))))
theorem ok_spec_CommonAncestors (x0 : Family) (x1 : Int) (x2 : Int) (hx : x0.people.length ≤ 1048576) (hu : x0.unions.length ≤ 1048576) (hn : ∀ p ∈ x0.people, p.name.length ≤ 1048576) : FnT Try.prog 143 [.agg (cFamily false x0), .int .i64 x1, .int .i64 x2] (C143 (specCommon x0 x1 x2)) := by
  have aux : ∀ R, specCommon x0 x1 x2 = R → slim (C143 R) (A143 x0 x1 x2) [] := by
    intro R hR
    refine rg trivial ?_
    refine rg ⟨⟨by trivial, by trivial, by trivial⟩, fun hg0 => ⟨by trivial, by trivial, by trivial⟩, trivial⟩ ?_
    revert hR; refine cd (fun hc1 hR => ?_) fun hc1 hR => ?_
    ·
      refine rg trivial ?_
      exact congrArg C143 hR
    ·
      refine rg ⟨⟨by trivial, by ((try clear hR); intros; (try simp only [decide_eq_true_eq, decide_eq_false_iff_not, Bool.or_eq_true, Bool.and_eq_true, or_f_iff, not_f_iff, not_t_iff, Bool.not_eq_true', inR, l1Has_iff] at *); (repeat' apply And.intro) <;> (intros; omega)), by ((try clear hR); intros; (try simp only [decide_eq_true_eq, decide_eq_false_iff_not, Bool.or_eq_true, Bool.and_eq_true, or_f_iff, not_f_iff, not_t_iff, Bool.not_eq_true', inR, l1Has_iff] at *); (repeat' apply And.intro) <;> (intros; omega)), by (exact isFamily_par _ (by simp_all [l1Has_iff]))⟩, trivial⟩ ?_
      exact congrArg C143 hR
  exact Fn.go 21 Try.func143 (by kernel_rfl) (by kernel_rfl) (by simp [C143, Frs, FrsL, FrsB, rowOf, cInt, cBool, cStr, cSl, FrsL_app, cPerson, cUnion, cFamily]) (A143 x0 x1 x2) (by kernel_rfl) (aux _ rfl)
def k143 (x0 : Family) (x1 : Int) (x2 : Int) : Cl := (hres (C143 (specCommon x0 x1 x2)), k3 (ok_spec_CommonAncestors x0 x1 x2))
theorem l8Common_mem (x : Family) (a b : Int) : (l8Common x a b).length ≤ x.people.length ∧ ∀ q ∈ l8Common x a b, 0 ≤ q ∧ q < x.people.length ∧ 0 ≤ (l8Up x a).getD q.toNat default ∧ 0 ≤ (l8Up x b).getD q.toNat default := by
  unfold l8Common
  rw [l8Up_len]
  refine loopN_to (fun i (v : List Int) => v.length ≤ i ∧ ∀ q ∈ v, 0 ≤ q ∧ q < i ∧ 0 ≤ (l8Up x a).getD q.toNat default ∧ 0 ≤ (l8Up x b).getD q.toNat default) (fun (v : List Int) => v.length ≤ x.people.length ∧ ∀ q ∈ v, 0 ≤ q ∧ q < x.people.length ∧ 0 ≤ (l8Up x a).getD q.toNat default ∧ 0 ≤ (l8Up x b).getD q.toNat default) ⟨Nat.le_refl _, fun q hq => by simp at hq⟩ (fun i v next hi hv hn => ?_) (fun v hv => hv)
  have hw : ∀ q ∈ v, 0 ≤ q ∧ q < ((i + 1 : Nat) : Int) ∧ 0 ≤ (l8Up x a).getD q.toNat default ∧ 0 ≤ (l8Up x b).getD q.toNat default := fun q hq => by have := hv.2 q hq; omega
  refine cond_both (p := fun (v : List Int) => v.length ≤ x.people.length ∧ ∀ q ∈ v, 0 ≤ q ∧ q < x.people.length ∧ 0 ≤ (l8Up x a).getD q.toNat default ∧ 0 ≤ (l8Up x b).getD q.toNat default) (fun c => hn _ ⟨by simp; exact hv.1, fun q hq => ?_⟩) (fun _ => hn _ ⟨Nat.le_succ_of_le hv.1, hw⟩)
  simp only [Bool.and_eq_true, decide_eq_true_eq] at c
  rcases List.mem_append.1 hq with hq | hq
  · exact hw q hq
  · rw [List.mem_singleton.1 hq]; simp only [Int.toNat_natCast]; omega
theorem commonAncestors_eq (x : Family) (a b : Int) (hp : Par x) (ha : 0 ≤ a ∧ a < x.people.length) (hb : 0 ≤ b ∧ b < x.people.length) : commonAncestors x a b = l8Common x a b := by
  unfold commonAncestors l8Common
  rw [stepsUp_eq x a hp ha, stepsUp_eq x b hp hb, l8Up_len]
theorem specCommon_of {x : Family} {a b : Int} (hf : specIsFamily x = true) (ha : 0 ≤ a ∧ a < x.people.length) (hb : 0 ≤ b ∧ b < x.people.length) : specCommon x a b = l8Common x a b := by
  unfold specCommon
  rw [(l1Has_iff x a).2 ⟨ha, hf⟩, (l1Has_iff x b).2 ⟨hb, hf⟩]
  rfl
theorem specCommon_no {x : Family} {a b : Int} (h : ¬ (specIsFamily x = true ∧ (0 ≤ a ∧ a < x.people.length) ∧ 0 ≤ b ∧ b < x.people.length)) : specCommon x a b = [] := by
  unfold specCommon
  cases h1 : l1Has x a
  · rfl
  · cases h2 : l1Has x b
    · rfl
    · have h1 := (l1Has_iff x a).1 h1
      have h2 := (l1Has_iff x b).1 h2
      exact absurd ⟨h1.2, h1.1, h2.1⟩ h
theorem specCommon_len (x : Family) (a b : Int) : (specCommon x a b).length ≤ x.people.length := by
  unfold specCommon
  exact cond_both (p := fun (v : List Int) => v.length ≤ x.people.length) (fun _ => Nat.zero_le _) (fun _ => (l8Common_mem x a b).1)
theorem specCommon_get {x : Family} {a b : Int} {k : Nat} (hk : k < (specCommon x a b).length) : (specIsFamily x = true ∧ (0 ≤ a ∧ a < x.people.length) ∧ 0 ≤ b ∧ b < x.people.length) ∧ 0 ≤ (specCommon x a b).getD k default ∧ (specCommon x a b).getD k default < x.people.length ∧
    0 ≤ (l8Up x a).getD ((specCommon x a b).getD k default).toNat default ∧ 0 ≤ (l8Up x b).getD ((specCommon x a b).getD k default).toNat default := by
  by_cases h : specIsFamily x = true ∧ (0 ≤ a ∧ a < x.people.length) ∧ 0 ≤ b ∧ b < x.people.length
  · refine ⟨h, ?_⟩
    rw [specCommon_of h.1 h.2.1 h.2.2] at hk ⊢
    exact (l8Common_mem x a b).2 _ (getD_mem hk)
  · rw [specCommon_no h] at hk; exact absurd hk (Nat.not_lt_zero _)
theorem common_get {x : Family} {a b : Int} (hp : Par x) (ha : 0 ≤ a ∧ a < x.people.length) (hb : 0 ≤ b ∧ b < x.people.length) {k : Nat} (hk : k < (commonAncestors x a b).length) : 0 ≤ (commonAncestors x a b).getD k default ∧ (commonAncestors x a b).getD k default < x.people.length ∧
    0 ≤ (stepsUp x a).getD ((commonAncestors x a b).getD k default).toNat default ∧ 0 ≤ (stepsUp x b).getD ((commonAncestors x a b).getD k default).toNat default := by
  rw [commonAncestors_eq x a b hp ha hb] at hk ⊢
  rw [stepsUp_eq x a hp ha, stepsUp_eq x b hp hb]
  exact (l8Common_mem x a b).2 _ (getD_mem hk)
theorem common_len {x : Family} {a b : Int} (hp : Par x) (ha : 0 ≤ a ∧ a < x.people.length) (hb : 0 ≤ b ∧ b < x.people.length) : (commonAncestors x a b).length ≤ x.people.length := by
  rw [commonAncestors_eq x a b hp ha hb]; exact (l8Common_mem x a b).1
end Go.Proofs.Ytikfeeaapenplaa
