import Derived.Test.YtaageiiodlfeiaaVRB
set_option maxHeartbeats 4000000
set_option linter.unusedSimpArgs false
set_option linter.unusedVariables false
namespace Go.Proofs.Ytaageiiodlfeiaa
open Go Go.Lite Go.Proofs
def C158 (R : (List UInt8)) : LV × List (Nat × BC) := (.str R, [])
def l3Letters  : (List UInt8) := [70, 77, 66, 90, 83, 68, 72, 87]
def A158  : Ann := r0 2 [0] [] (rt [] (C158 [70, 77, 66, 90, 83, 68, 72, 87]))
theorem l3Letters_len : l3Letters.length = 8 := rfl
theorem ok_spec_l3Letters  : FnT Try.prog 158 [] (C158 l3Letters) := by
  have aux : ∀ R, l3Letters = R → slim (C158 R) (A158) [] := by
    intro R hR
    refine rg trivial ?_
    exact congrArg C158 hR
  exact Fn.go 1 Try.func158 (by kernel_rfl) (by kernel_rfl) (by simp [C158, Frs, FrsL]) (A158) (by kernel_rfl) (aux _ rfl)
def k158  : Cl := (hres (C158 l3Letters), k0 (ok_spec_l3Letters))
def C161 (R : (List UInt8)) : LV × List (Nat × BC) := (.str R, [])
def l3Prefix (x0 : Int) : (List UInt8) := bif (decide (x0 = 1)) then [109, 58] else (bif (decide (x0 = 2)) then [119, 58] else ([] : List UInt8))
def A161 (x0 : Int) : Ann := r0 1 [0, 2] [] (r0 1 [2, 3] [] (r0 1 [2, 3, 4] [] (cn (decide (x0 = 1)) (r0 1 [2] [] (rt [] (C161 [109, 58]))) (r0 1 [2, 6] [] (cn (decide (x0 = 2)) (r0 1 [2] [] (rt [] (C161 [119, 58]))) (r0 1 [2] [] (rt [] (C161 ([] : List UInt8)))))))))
theorem l3Prefix_len (s : Int) : (l3Prefix s).length ≤ 2 := by
  unfold l3Prefix
  refine cond_both (p := fun (r : List UInt8) => r.length ≤ 2) (fun _ => by simp) (fun _ => cond_both (p := fun (r : List UInt8) => r.length ≤ 2) (fun _ => by simp) (fun _ => by simp))
theorem ok_spec_l3Prefix (x0 : Int) : FnT Try.prog 161 [.int .i64 x0] (C161 (l3Prefix x0)) := by
  have aux : ∀ R, l3Prefix x0 = R → slim (C161 R) (A161 x0) [] := by
    intro R hR
    refine rg trivial ?_
    refine rg trivial ?_
    refine rg trivial ?_
    revert hR; refine cd (fun hc1 hR => ?_) fun hc1 hR => ?_
    ·
      refine rg trivial ?_
      exact congrArg C161 hR
    ·
      refine rg trivial ?_
      revert hR; refine cd (fun hc2 hR => ?_) fun hc2 hR => ?_
      ·
        refine rg trivial ?_
        exact congrArg C161 hR
      ·
        refine rg trivial ?_
        exact congrArg C161 hR
  exact Fn.go 8 Try.func161 (by kernel_rfl) (by kernel_rfl) (by simp [C161, Frs, FrsL]) (A161 x0) (by kernel_rfl) (aux _ rfl)
def k161 (x0 : Int) : Cl := (hres (C161 (l3Prefix x0)), k0 (ok_spec_l3Prefix x0))
def C162 (R : (List UInt8)) : LV × List (Nat × BC) := (.str R, [])
def l3Word (x0 : List Step) : (List UInt8) := loopN (fun i1 (v1 : (List UInt8)) next => bif (decide (((x0.getD i1 default).age) = 1)) then (bif (decide (((x0.getD i1 default).age) = 2)) then (next (((v1 ++ [101]) ++ [121]) ++ (((l3Letters ).drop ((((x0.getD i1 default).kind) - 1).toNat)).take ((((x0.getD i1 default).kind).toNat) - ((((x0.getD i1 default).kind) - 1).toNat))))) else (next ((v1 ++ [101]) ++ (((l3Letters ).drop ((((x0.getD i1 default).kind) - 1).toNat)).take ((((x0.getD i1 default).kind).toNat) - ((((x0.getD i1 default).kind) - 1).toNat)))))) else (bif (decide (((x0.getD i1 default).age) = 2)) then (next ((v1 ++ [121]) ++ (((l3Letters ).drop ((((x0.getD i1 default).kind) - 1).toNat)).take ((((x0.getD i1 default).kind).toNat) - ((((x0.getD i1 default).kind) - 1).toNat))))) else (next (v1 ++ (((l3Letters ).drop ((((x0.getD i1 default).kind) - 1).toNat)).take ((((x0.getD i1 default).kind).toNat) - ((((x0.getD i1 default).kind) - 1).toNat))))))) (fun (v1 : (List UInt8)) => bif (v1 == ([] : List UInt8)) then [46] else v1) x0.length 0 ([] : List UInt8)
def D162b1 (x0 : List Step) (i1 : Nat) (v1 : (List UInt8)) : Dl := ⟨[(8, .int .i64 ((i1 : Nat) : Int)), (3, .str v1)], []⟩
def A162b1 (x0 : List Step) (i1 : Nat) (v1 : (List UInt8)) : Ann := r0 1 [2, 3, 6, 7, 8, 9] [] (cn (decide (((i1 : Nat) : Int) < ((x0.length : Nat) : Int))) (r1 1 [2, 3, 5, 6, 7, 8] [5] [pf (0 ≤ (((i1 : Nat) : Int) : Int) ∧ (((i1 : Nat) : Int) : Int) < ((x0.length : Nat) : Int))] [0] (r0 1 [2, 3, 5, 6, 7, 8, 14] [5] (cn (decide (((x0.getD i1 default).age) = 1)) (r1 1 [2, 3, 5, 6, 7, 8] [5] [pf (((v1.length + [101].length : Nat) : Int) ≤ 9223372036854775807)] [0] (r0 1 [2, 3, 5, 6, 7, 8, 19] [5] (cn (decide (((x0.getD i1 default).age) = 2)) (r1 1 [2, 3, 5, 6, 7, 8] [5] [pf ((((v1 ++ [101]).length + [121].length : Nat) : Int) ≤ 9223372036854775807)] [0] (.reg 1 [] [(1, k158 )] [2, 3, 6, 7, 8] [] [] [pf (inR .i64 (((x0.getD i1 default).kind) - 1)), pf (0 ≤ (((x0.getD i1 default).kind) - 1 : Int) ∧ (((x0.getD i1 default).kind) - 1 : Int) ≤ (x0.getD i1 default).kind ∧ ((x0.getD i1 default).kind : Int) ≤ (((l3Letters ).length : Nat) : Int)), pf (((((v1 ++ [101]) ++ [121]).length + (((l3Letters ).drop ((((x0.getD i1 default).kind) - 1).toNat)).take ((((x0.getD i1 default).kind).toNat) - ((((x0.getD i1 default).kind) - 1).toNat))).length : Nat) : Int) ≤ 9223372036854775807)] [] [12, 0, 4, 8] (r1 1 [2, 3, 6, 7, 8] [] [pf (inR .i64 (((i1 : Nat) : Int) + 1))] [0] (.next 0 [] (D162b1 x0 (i1 + 1) (((v1 ++ [101]) ++ [121]) ++ (((l3Letters ).drop ((((x0.getD i1 default).kind) - 1).toNat)).take ((((x0.getD i1 default).kind).toNat) - ((((x0.getD i1 default).kind) - 1).toNat))))))))) (.reg 1 [] [(1, k158 )] [2, 3, 6, 7, 8] [] [] [pf (inR .i64 (((x0.getD i1 default).kind) - 1)), pf (0 ≤ (((x0.getD i1 default).kind) - 1 : Int) ∧ (((x0.getD i1 default).kind) - 1 : Int) ≤ (x0.getD i1 default).kind ∧ ((x0.getD i1 default).kind : Int) ≤ (((l3Letters ).length : Nat) : Int)), pf ((((v1 ++ [101]).length + (((l3Letters ).drop ((((x0.getD i1 default).kind) - 1).toNat)).take ((((x0.getD i1 default).kind).toNat) - ((((x0.getD i1 default).kind) - 1).toNat))).length : Nat) : Int) ≤ 9223372036854775807)] [] [12, 0, 4, 8] (r1 1 [2, 3, 6, 7, 8] [] [pf (inR .i64 (((i1 : Nat) : Int) + 1))] [0] (.next 0 [] (D162b1 x0 (i1 + 1) ((v1 ++ [101]) ++ (((l3Letters ).drop ((((x0.getD i1 default).kind) - 1).toNat)).take ((((x0.getD i1 default).kind).toNat) - ((((x0.getD i1 default).kind) - 1).toNat))))))))))) (r0 1 [2, 3, 5, 6, 7, 8, 19] [5] (cn (decide (((x0.getD i1 default).age) = 2)) (r1 1 [2, 3, 5, 6, 7, 8] [5] [pf (((v1.length + [121].length : Nat) : Int) ≤ 9223372036854775807)] [0] (.reg 1 [] [(1, k158 )] [2, 3, 6, 7, 8] [] [] [pf (inR .i64 (((x0.getD i1 default).kind) - 1)), pf (0 ≤ (((x0.getD i1 default).kind) - 1 : Int) ∧ (((x0.getD i1 default).kind) - 1 : Int) ≤ (x0.getD i1 default).kind ∧ ((x0.getD i1 default).kind : Int) ≤ (((l3Letters ).length : Nat) : Int)), pf ((((v1 ++ [121]).length + (((l3Letters ).drop ((((x0.getD i1 default).kind) - 1).toNat)).take ((((x0.getD i1 default).kind).toNat) - ((((x0.getD i1 default).kind) - 1).toNat))).length : Nat) : Int) ≤ 9223372036854775807)] [] [12, 0, 4, 8] (r1 1 [2, 3, 6, 7, 8] [] [pf (inR .i64 (((i1 : Nat) : Int) + 1))] [0] (.next 0 [] (D162b1 x0 (i1 + 1) ((v1 ++ [121]) ++ (((l3Letters ).drop ((((x0.getD i1 default).kind) - 1).toNat)).take ((((x0.getD i1 default).kind).toNat) - ((((x0.getD i1 default).kind) - 1).toNat))))))))) (.reg 1 [] [(1, k158 )] [2, 3, 6, 7, 8] [] [] [pf (inR .i64 (((x0.getD i1 default).kind) - 1)), pf (0 ≤ (((x0.getD i1 default).kind) - 1 : Int) ∧ (((x0.getD i1 default).kind) - 1 : Int) ≤ (x0.getD i1 default).kind ∧ ((x0.getD i1 default).kind : Int) ≤ (((l3Letters ).length : Nat) : Int)), pf (((v1.length + (((l3Letters ).drop ((((x0.getD i1 default).kind) - 1).toNat)).take ((((x0.getD i1 default).kind).toNat) - ((((x0.getD i1 default).kind) - 1).toNat))).length : Nat) : Int) ≤ 9223372036854775807)] [] [12, 0, 4, 8] (r1 1 [2, 3, 6, 7, 8] [] [pf (inR .i64 (((i1 : Nat) : Int) + 1))] [0] (.next 0 [] (D162b1 x0 (i1 + 1) (v1 ++ (((l3Letters ).drop ((((x0.getD i1 default).kind) - 1).toNat)).take ((((x0.getD i1 default).kind).toNat) - ((((x0.getD i1 default).kind) - 1).toNat))))))))))))) (r0 1 [2, 3, 33] [] (cn (v1 == ([] : List UInt8)) (r0 1 [2, 3] [] (rt [] (C162 [46]))) (r0 1 [2] [] (rt [] (C162 v1))))))
def A162 (x0 : List Step) : Ann := r0 2 [0, 2, 3] [] (r0 1 [2, 3, 6, 7, 8] [] (lp (D162b1 x0) [] [] [] (D162b1 x0 0 ([] : List UInt8)) (A162b1 x0)))
theorem l3Word_len (l : List Step) : (l3Word l).length ≤ 10 * l.length + 1 := by
  unfold l3Word
  refine loopN_to (fun i (v : List UInt8) => v.length ≤ 10 * i) (fun (r : List UInt8) => r.length ≤ 10 * l.length + 1) (Nat.zero_le _) (fun i v next hi hv hn => ?_) (fun v hv => cond_both (p := fun (r : List UInt8) => r.length ≤ 10 * l.length + 1) (fun _ => by simp) (fun _ => by omega))
  have h8 := l3Letters_len
  repeat' refine cond_both (p := fun (r : List UInt8) => r.length ≤ 10 * l.length + 1) (fun _ => ?_) (fun _ => ?_)
  all_goals exact hn _ (by simp only [List.length_append, List.length_cons, List.length_nil, List.length_take, List.length_drop, l3Letters_len]; omega)
theorem type_len {t : KinType} (h : specIsType t = true) : t.steps.length ≤ 8 := by
  unfold specIsType at h
  cases c : (!(l1In t.ego 0 2)) || (decide (8 < ((t.steps.length : Nat) : Int))) with
  | true => rw [c] at h; cases h
  | false => simp only [or_f_iff, decide_eq_false_iff_not] at c; omega
theorem steps_kind {l : List Step} (h : ∀ k : Nat, k < l.length → (1 ≤ (l.getD k default).kind ∧ (l.getD k default).kind ≤ 8) ∧ 0 ≤ (l.getD k default).age ∧ (l.getD k default).age ≤ 2) : ∀ s ∈ l, 1 ≤ s.kind ∧ s.kind ≤ 8 := fun s hs => by
  obtain ⟨k, hk, e⟩ := mem_getD (d := default) hs
  rw [← e]; exact (h k hk).1
theorem ok_spec_l3Word (x0 : List Step) (hx : x0.length ≤ 1000) (hs : ∀ s ∈ x0, 1 ≤ s.kind ∧ s.kind ≤ 8) : FnT Try.prog 162 [.ro false 2 x0.length (rowOf (cStep false) x0)] (C162 (l3Word x0)) := by
  have aux : ∀ R, l3Word x0 = R → slim (C162 R) (A162 x0) [] := by
    intro R hR
    refine rg trivial ?_
    refine rg trivial ?_
    revert hR; refine lN (fun i v => (v : List UInt8).length ≤ 3 * i) (by (exact Nat.zero_le _)) rfl fun i1 v1 F1 hn1 hI1 hR hK1 => ?_
    refine rg trivial ?_
    refine ⟨fun hc1 => ?_, fun hc1 => ?_⟩
    · have hii1 : i1 < x0.length := by have := of_decide_eq_true hc1; omega
      replace hR := loopN_step hR hii1
      refine rg ⟨by (intros; omega), trivial⟩ ?_
      refine rg trivial ?_
      revert hR; refine cd (fun hc2 hR => ?_) fun hc2 hR => ?_
      ·
        refine rg ⟨by (have h9 := hs _ (getD_mem (d := default) hii1); have h8 := l3Letters_len; (try simp only [inR, List.length_append, List.length_cons, List.length_nil, List.length_take, List.length_drop, l3Letters_len]); omega), trivial⟩ ?_
        refine rg trivial ?_
        revert hR; refine cd (fun hc3 hR => ?_) fun hc3 hR => ?_
        ·
          refine rg ⟨by (have h9 := hs _ (getD_mem (d := default) hii1); have h8 := l3Letters_len; (try simp only [inR, List.length_append, List.length_cons, List.length_nil, List.length_take, List.length_drop, l3Letters_len]); omega), trivial⟩ ?_
          refine rg ⟨by (have h9 := hs _ (getD_mem (d := default) hii1); have h8 := l3Letters_len; (try simp only [inR, List.length_append, List.length_cons, List.length_nil, List.length_take, List.length_drop, l3Letters_len]); omega), by (have h9 := hs _ (getD_mem (d := default) hii1); have h8 := l3Letters_len; (try simp only [inR, List.length_append, List.length_cons, List.length_nil, List.length_take, List.length_drop, l3Letters_len]); omega), by (have h9 := hs _ (getD_mem (d := default) hii1); have h8 := l3Letters_len; (try simp only [inR, List.length_append, List.length_cons, List.length_nil, List.length_take, List.length_drop, l3Letters_len]); omega), trivial, trivial⟩ ?_
          refine rg ⟨by (have h9 := hs _ (getD_mem (d := default) hii1); have h8 := l3Letters_len; (try simp only [inR, List.length_append, List.length_cons, List.length_nil, List.length_take, List.length_drop, l3Letters_len]); omega), trivial⟩ ?_
          exact hK1 (((v1 ++ [101]) ++ [121]) ++ (((l3Letters ).drop ((((x0.getD i1 default).kind) - 1).toNat)).take ((((x0.getD i1 default).kind).toNat) - ((((x0.getD i1 default).kind) - 1).toNat)))) hii1 (by (have h9 := hs _ (getD_mem (d := default) hii1); have h8 := l3Letters_len; (try simp only [inR, List.length_append, List.length_cons, List.length_nil, List.length_take, List.length_drop, l3Letters_len]); omega)) hR
        ·
          refine rg ⟨by (have h9 := hs _ (getD_mem (d := default) hii1); have h8 := l3Letters_len; (try simp only [inR, List.length_append, List.length_cons, List.length_nil, List.length_take, List.length_drop, l3Letters_len]); omega), by (have h9 := hs _ (getD_mem (d := default) hii1); have h8 := l3Letters_len; (try simp only [inR, List.length_append, List.length_cons, List.length_nil, List.length_take, List.length_drop, l3Letters_len]); omega), by (have h9 := hs _ (getD_mem (d := default) hii1); have h8 := l3Letters_len; (try simp only [inR, List.length_append, List.length_cons, List.length_nil, List.length_take, List.length_drop, l3Letters_len]); omega), trivial, trivial⟩ ?_
          refine rg ⟨by (have h9 := hs _ (getD_mem (d := default) hii1); have h8 := l3Letters_len; (try simp only [inR, List.length_append, List.length_cons, List.length_nil, List.length_take, List.length_drop, l3Letters_len]); omega), trivial⟩ ?_
          exact hK1 ((v1 ++ [101]) ++ (((l3Letters ).drop ((((x0.getD i1 default).kind) - 1).toNat)).take ((((x0.getD i1 default).kind).toNat) - ((((x0.getD i1 default).kind) - 1).toNat)))) hii1 (by (have h9 := hs _ (getD_mem (d := default) hii1); have h8 := l3Letters_len; (try simp only [inR, List.length_append, List.length_cons, List.length_nil, List.length_take, List.length_drop, l3Letters_len]); omega)) hR
      ·
        refine rg trivial ?_
        revert hR; refine cd (fun hc4 hR => ?_) fun hc4 hR => ?_
        ·
          refine rg ⟨by (have h9 := hs _ (getD_mem (d := default) hii1); have h8 := l3Letters_len; (try simp only [inR, List.length_append, List.length_cons, List.length_nil, List.length_take, List.length_drop, l3Letters_len]); omega), trivial⟩ ?_
          refine rg ⟨by (have h9 := hs _ (getD_mem (d := default) hii1); have h8 := l3Letters_len; (try simp only [inR, List.length_append, List.length_cons, List.length_nil, List.length_take, List.length_drop, l3Letters_len]); omega), by (have h9 := hs _ (getD_mem (d := default) hii1); have h8 := l3Letters_len; (try simp only [inR, List.length_append, List.length_cons, List.length_nil, List.length_take, List.length_drop, l3Letters_len]); omega), by (have h9 := hs _ (getD_mem (d := default) hii1); have h8 := l3Letters_len; (try simp only [inR, List.length_append, List.length_cons, List.length_nil, List.length_take, List.length_drop, l3Letters_len]); omega), trivial, trivial⟩ ?_
          refine rg ⟨by (have h9 := hs _ (getD_mem (d := default) hii1); have h8 := l3Letters_len; (try simp only [inR, List.length_append, List.length_cons, List.length_nil, List.length_take, List.length_drop, l3Letters_len]); omega), trivial⟩ ?_
          exact hK1 ((v1 ++ [121]) ++ (((l3Letters ).drop ((((x0.getD i1 default).kind) - 1).toNat)).take ((((x0.getD i1 default).kind).toNat) - ((((x0.getD i1 default).kind) - 1).toNat)))) hii1 (by (have h9 := hs _ (getD_mem (d := default) hii1); have h8 := l3Letters_len; (try simp only [inR, List.length_append, List.length_cons, List.length_nil, List.length_take, List.length_drop, l3Letters_len]); omega)) hR
        ·
          refine rg ⟨by (have h9 := hs _ (getD_mem (d := default) hii1); have h8 := l3Letters_len; (try simp only [inR, List.length_append, List.length_cons, List.length_nil, List.length_take, List.length_drop, l3Letters_len]); omega), by (have h9 := hs _ (getD_mem (d := default) hii1); have h8 := l3Letters_len; (try simp only [inR, List.length_append, List.length_cons, List.length_nil, List.length_take, List.length_drop, l3Letters_len]); omega), by (have h9 := hs _ (getD_mem (d := default) hii1); have h8 := l3Letters_len; (try simp only [inR, List.length_append, List.length_cons, List.length_nil, List.length_take, List.length_drop, l3Letters_len]); omega), trivial, trivial⟩ ?_
          refine rg ⟨by (have h9 := hs _ (getD_mem (d := default) hii1); have h8 := l3Letters_len; (try simp only [inR, List.length_append, List.length_cons, List.length_nil, List.length_take, List.length_drop, l3Letters_len]); omega), trivial⟩ ?_
          exact hK1 (v1 ++ (((l3Letters ).drop ((((x0.getD i1 default).kind) - 1).toNat)).take ((((x0.getD i1 default).kind).toNat) - ((((x0.getD i1 default).kind) - 1).toNat)))) hii1 (by (have h9 := hs _ (getD_mem (d := default) hii1); have h8 := l3Letters_len; (try simp only [inR, List.length_append, List.length_cons, List.length_nil, List.length_take, List.length_drop, l3Letters_len]); omega)) hR
    · obtain rfl : i1 = x0.length := by have := of_decide_eq_false hc1; omega
      replace hR := loopN_end hR (Nat.lt_irrefl _)
      refine rg trivial ?_
      revert hR; refine cd (fun hc5 hR => ?_) fun hc5 hR => ?_
      ·
        refine rg trivial ?_
        exact congrArg C162 hR
      ·
        refine rg trivial ?_
        exact congrArg C162 hR
  exact Fn.go 35 Try.func162 (by kernel_rfl) (by kernel_rfl) (by simp [C162, Frs, FrsL]) (A162 x0) (by kernel_rfl) (aux _ rfl)
def k162 (x0 : List Step) : Cl := (hres (C162 (l3Word x0)), k2 (ok_spec_l3Word x0))
def C114 (R : (List UInt8)) : LV × List (Nat × BC) := (.str R, [])
def specFmtType (x0 : KinType) : (List UInt8) := bif (!(specIsType x0)) then ([] : List UInt8) else ((l3Prefix x0.ego) ++ (l3Word x0.steps))
def A114 (x0 : KinType) : Ann := r0 1 [1, 2] [1] (.reg 1 [] [(1, k113 x0)] [1, 2, 5] [1] [] [] [] [0] (cn (!(specIsType x0)) (r0 1 [1, 2] [1] (rt [] (C114 ([] : List UInt8)))) (.reg 1 [] [(2, k161 x0.ego), (5, k162 x0.steps)] [2] [] [] [pf ((((l3Prefix x0.ego).length + (l3Word x0.steps).length : Nat) : Int) ≤ 9223372036854775807)] [] [4, 8, 0] (rt [] (C114 ((l3Prefix x0.ego) ++ (l3Word x0.steps)))))))
theorem ok_spec_FormatType (x0 : KinType) (h0 : x0.steps.length ≤ 1048576) : FnT Try.prog 114 [.agg (cKinType false x0)] (C114 (specFmtType x0)) := by
  have aux : ∀ R, specFmtType x0 = R → slim (C114 R) (A114 x0) [] := by
    intro R hR
    refine rg trivial ?_
    refine rg ⟨by with_reducible assumption, trivial⟩ ?_
    revert hR; refine cd (fun hc1 hR => ?_) fun hc1 hR => ?_
    ·
      refine rg trivial ?_
      exact congrArg C114 hR
    ·
      refine rg ⟨by (have h9 := type_len (t := x0) (by simpa using hc1); have h8 := l3Word_len x0.steps; have h7 := l3Prefix_len x0.ego; omega), trivial, ⟨by (have h9 := type_len (t := x0) (by simpa using hc1); have h8 := l3Word_len x0.steps; have h7 := l3Prefix_len x0.ego; omega), by (exact steps_kind (type_bd (t := x0) (by simpa using hc1)))⟩, trivial⟩ ?_
      exact congrArg C114 hR
  exact Fn.go 13 Try.func114 (by kernel_rfl) (by kernel_rfl) (by simp [C114, Frs, FrsL]) (A114 x0) (by kernel_rfl) (aux _ rfl)
def k114 (x0 : KinType) : Cl := (hres (C114 (specFmtType x0)), k1 (ok_spec_FormatType x0))
def C112 (R : (List Step)) : LV × List (Nat × BC) := (.own 0, [(0, .arr 2 R.length (rowOf (cStep true) R))])
def l3Read (x0 : List UInt8) : (List Step) := bif (x0 == [46]) then ([] : List Step) else (loopW (fun (v1 : (List Step) × Int × Int) nx1 => bif ((decide (v1.2.2 < ((x0.length : Nat) : Int))) && (decide (((v1.1.length : Nat) : Int) < 20))) then (bif (decide (((x0.getD v1.2.2.toNat 0).toNat : Int) = 101)) then (nx1 (v1.1, 1, v1.2.2 + 1)) else (bif (decide (((x0.getD v1.2.2.toNat 0).toNat : Int) = 121)) then (nx1 (v1.1, 2, v1.2.2 + 1)) else (loopN (fun i2 (v2 : Int) next => bif (decide ((((l3Letters ).getD i2 0).toNat : Int) = ((x0.getD v1.2.2.toNat 0).toNat : Int))) then (next (((i2 : Nat) : Int) + 1)) else (next v2)) (fun (v2 : Int) => nx1 ((v1.1 ++ [(Step.mk v2 v1.2.1)]), 0, v1.2.2 + 1)) 8 0 0))) else v1.1) (((x0.length : Int) - 0).toNat + 1) (([] : List Step), 0, 0))
def D112b1 (x0 : List UInt8) (v1 : (List Step) × Int × Int) : Dl := ⟨[(3, .own 20003), (4, .int .i64 v1.2.1), (5, .int .i64 v1.2.2)], [(20003, .arr 2 v1.1.length (rowOf (cStep true) v1.1))]⟩
def D112b2 (x0 : List UInt8) (v1 : (List Step) × Int × Int) (i2 : Nat) (v2 : Int) : Dl := ⟨[(7, .int .i64 ((i2 : Nat) : Int)), (6, .int .i64 v2)], []⟩
def A112b2 (x0 : List UInt8) (v1 : (List Step) × Int × Int) (i2 : Nat) (v2 : Int) : Ann := r0 1 [0, 2, 3, 4, 5, 6, 7, 31] [20003] (cn (decide (((i2 : Nat) : Int) < 8)) (.reg 1 [] [(0, k158 )] [0, 2, 3, 4, 5, 6, 7, 40] [20003] [] [pf (0 ≤ (((i2 : Nat) : Int) : Int) ∧ (((i2 : Nat) : Int) : Int) < (((l3Letters ).length : Nat) : Int)), pf (0 ≤ (v1.2.2 : Int) ∧ (v1.2.2 : Int) < ((x0.length : Nat) : Int))] [] [8, 0, 4] (cn (decide ((((l3Letters ).getD i2 0).toNat : Int) = ((x0.getD v1.2.2.toNat 0).toNat : Int))) (r1 1 [0, 2, 3, 4, 5, 6, 7] [20003] [pf (inR .i64 (((i2 : Nat) : Int) + 1))] [0] (r1 1 [0, 2, 3, 4, 5, 6, 7] [20003] [pf (inR .i64 (((i2 : Nat) : Int) + 1))] [0] (.next 0 [] (D112b2 x0 v1 (i2 + 1) (((i2 : Nat) : Int) + 1))))) (r1 1 [0, 2, 3, 4, 5, 6, 7] [20003] [pf (inR .i64 (((i2 : Nat) : Int) + 1))] [0] (.next 0 [] (D112b2 x0 v1 (i2 + 1) v2))))) (.reg 1 [] [(4, bsC 47 (cStep true) ([(Step.mk v2 v1.2.1)] : List Step)), (5, ap1 48 (cStep true) 16 v1.1 (Step.mk v2 v1.2.1))] [0, 2, 3, 4, 5] [48] [] [] [] [0, 4] (r0 1 [0, 2, 3, 4, 5] [48] (r1 1 [0, 2, 3, 4, 5] [48] [pf (inR .i64 (v1.2.2 + 1))] [0] (.next 1 [(20003, some 48)] (D112b1 x0 ((v1.1 ++ [(Step.mk v2 v1.2.1)]), 0, v1.2.2 + 1)))))))
def A112b1 (x0 : List UInt8) (v1 : (List Step) × Int × Int) : Ann := .reg 1 [] [] [0, 2, 3, 4, 5, 20] [20003] [decide (v1.2.2 < ((x0.length : Nat) : Int))] [] [] [1, 1, 1] (cn ((decide (v1.2.2 < ((x0.length : Nat) : Int))) && (decide (((v1.1.length : Nat) : Int) < 20))) (r1 1 [0, 2, 3, 4, 5, 25] [20003] [pf (0 ≤ (v1.2.2 : Int) ∧ (v1.2.2 : Int) < ((x0.length : Nat) : Int))] [0] (r0 1 [0, 2, 3, 4, 5, 25, 26] [20003] (cn (decide (((x0.getD v1.2.2.toNat 0).toNat : Int) = 101)) (r0 1 [0, 2, 3, 4, 5] [20003] (r1 1 [0, 2, 3, 4, 5] [20003] [pf (inR .i64 (v1.2.2 + 1))] [0] (.next 0 [(20003, some 20003)] (D112b1 x0 (v1.1, 1, v1.2.2 + 1))))) (r0 1 [0, 2, 3, 4, 5, 28] [20003] (cn (decide (((x0.getD v1.2.2.toNat 0).toNat : Int) = 121)) (r0 1 [0, 2, 3, 4, 5] [20003] (r1 1 [0, 2, 3, 4, 5] [20003] [pf (inR .i64 (v1.2.2 + 1))] [0] (.next 0 [(20003, some 20003)] (D112b1 x0 (v1.1, 2, v1.2.2 + 1))))) (r0 1 [0, 2, 3, 4, 5, 6] [20003] (r0 1 [0, 2, 3, 4, 5, 6, 7] [20003] (lp (D112b2 x0 v1) [] [] [] (D112b2 x0 v1 0 0) (A112b2 x0 v1))))))))) (r0 1 [2] [20003] (rt [(0, some 20003)] (C112 v1.1))))
def A112 (x0 : List UInt8) : Ann := .reg 3 [] [(1000, bsC 8 (cStep true) ([] : List Step))] [0, 2, 3, 4] [8] [] [] [] [0] (r0 1 [0, 2, 3, 4, 10] [8] (cn (x0 == [46]) (r0 1 [0, 2, 3, 4] [8] (rt [(0, some 8)] (C112 ([] : List Step)))) (r0 1 [0, 2, 3, 4, 5] [8] (.loop ((List Step) × Int × Int) (D112b1 x0) [] [8] [(20003, some 8)] (D112b1 x0 (([] : List Step), 0, 0)) (A112b1 x0)))))
theorem l3Read_len (s : List UInt8) : (l3Read s).length ≤ 20 := by
  unfold l3Read
  refine cond_both (p := fun (r : List Step) => r.length ≤ 20) (fun _ => Nat.zero_le _) (fun _ => ?_)
  refine loopW_to (fun (v : List Step × Int × Int) => v.1.length ≤ 20) (fun v => ((s.length : Int) - v.2.2).toNat) (fun (r : List Step) => r.length ≤ 20) (fun v next hv hn => ?_) _ _ (by dsimp only; omega) (Nat.zero_le _)
  refine cond_both (p := fun (r : List Step) => r.length ≤ 20) (fun c => ?_) (fun _ => hv)
  simp only [Bool.and_eq_true, decide_eq_true_eq] at c
  refine cond_both (p := fun (r : List Step) => r.length ≤ 20) (fun _ => hn _ hv (by dsimp only; omega)) (fun _ => cond_both (p := fun (r : List Step) => r.length ≤ 20) (fun _ => hn _ hv (by dsimp only; omega)) (fun _ => ?_))
  exact loopN_to (fun _ _ => True) (fun (r : List Step) => r.length ≤ 20) trivial (fun i w next _ _ hn2 => cond_both (p := fun (r : List Step) => r.length ≤ 20) (fun _ => hn2 _ trivial) (fun _ => hn2 _ trivial)) (fun w _ => hn _ (by simp only [List.length_append, List.length_cons, List.length_nil]; omega) (by dsimp only; omega))
theorem ok_spec_l3Read (x0 : List UInt8) (hx : x0.length ≤ 1048576) : FnT Try.prog 112 [.str x0] (C112 (l3Read x0)) := by
  have aux : ∀ R, l3Read x0 = R → slim (C112 R) (A112 x0) [] := by
    intro R hR
    refine rg ⟨trivial, trivial⟩ ?_
    refine rg trivial ?_
    revert hR; refine cd (fun hc1 hR => ?_) fun hc1 hR => ?_
    ·
      refine rg trivial ?_
      exact congrArg C112 hR
    ·
      refine rg trivial ?_
      revert hR; refine lW (fun v => (0 ≤ v.2.2 ∧ v.2.2 ≤ x0.length) ∧ (v.1 : List Step).length ≤ 20) (fun v => ((x0.length : Int) - v.2.2).toNat) (by ((dsimp only; simp only [List.length_append, List.length_cons, List.length_nil]; omega))) (Nat.lt_succ_self _) rfl fun m1 v1 F1 hI1 hM1 hR hK1 => ?_
      refine rg trivial ?_
      revert hR; refine cd (fun hc2 hR => ?_) fun hc2 hR => ?_
      ·
        refine rg ⟨by ((try clear hR hK1); intros; (try simp only [decide_eq_true_eq, decide_eq_false_iff_not, Bool.or_eq_true, Bool.and_eq_true, or_f_iff, not_f_iff, not_t_iff, Bool.not_eq_true', inR] at *); (repeat' apply And.intro) <;> (intros; omega)), trivial⟩ ?_
        refine rg trivial ?_
        revert hR; refine cd (fun hc3 hR => ?_) fun hc3 hR => ?_
        ·
          refine rg trivial ?_
          refine rg ⟨by ( intros; simp only [inR]; omega), trivial⟩ ?_
          exact hK1 (v1.1, 1, v1.2.2 + 1) (by ((simp only [Bool.and_eq_true, decide_eq_true_eq] at *; refine ⟨⟨?_, ?_⟩, ?_⟩ <;> ((try dsimp only); (try simp only [List.length_append, List.length_cons, List.length_nil]); omega)))) (by ((try clear hR hK1); intros; (try simp only [decide_eq_true_eq, decide_eq_false_iff_not, Bool.or_eq_true, Bool.and_eq_true, or_f_iff, not_f_iff, not_t_iff, Bool.not_eq_true', inR] at *); (repeat' apply And.intro) <;> (intros; omega))) hR
        ·
          refine rg trivial ?_
          revert hR; refine cd (fun hc4 hR => ?_) fun hc4 hR => ?_
          ·
            refine rg trivial ?_
            refine rg ⟨by ( intros; simp only [inR]; omega), trivial⟩ ?_
            exact hK1 (v1.1, 2, v1.2.2 + 1) (by ((simp only [Bool.and_eq_true, decide_eq_true_eq] at *; refine ⟨⟨?_, ?_⟩, ?_⟩ <;> ((try dsimp only); (try simp only [List.length_append, List.length_cons, List.length_nil]); omega)))) (by ((try clear hR hK1); intros; (try simp only [decide_eq_true_eq, decide_eq_false_iff_not, Bool.or_eq_true, Bool.and_eq_true, or_f_iff, not_f_iff, not_t_iff, Bool.not_eq_true', inR] at *); (repeat' apply And.intro) <;> (intros; omega))) hR
          ·
            refine rg trivial ?_
            refine rg trivial ?_
            revert hR; refine lN (fun i v => 0 ≤ v ∧ v ≤ i) (by (intros; omega)) rfl fun i2 v2 F2 hn2 hI2 hR hK2 => ?_
            refine rg trivial ?_
            refine ⟨fun hc5 => ?_, fun hc5 => ?_⟩
            · have hii2 : i2 < 8 := by have := of_decide_eq_true hc5; omega
              replace hR := loopN_step hR hii2
              refine rg ⟨by (have h9 := l3Letters_len; omega), by ((try clear hR hK1 hK2); intros; (try simp only [decide_eq_true_eq, decide_eq_false_iff_not, Bool.or_eq_true, Bool.and_eq_true, or_f_iff, not_f_iff, not_t_iff, Bool.not_eq_true', inR] at *); (repeat' apply And.intro) <;> (intros; omega)), trivial, trivial⟩ ?_
              revert hR; refine cd (fun hc6 hR => ?_) fun hc6 hR => ?_
              ·
                refine rg ⟨by ( intros; simp only [inR]; omega), trivial⟩ ?_
                refine rg ⟨by ( intros; simp only [inR]; omega), trivial⟩ ?_
                exact hK2 (((i2 : Nat) : Int) + 1) hii2 (by (intros; omega)) hR
              ·
                refine rg ⟨by ( intros; simp only [inR]; omega), trivial⟩ ?_
                exact hK2 v2 hii2 (by (intros; omega)) hR
            · obtain rfl : i2 = 8 := by have := of_decide_eq_false hc5; omega
              replace hR := loopN_end hR (Nat.lt_irrefl _)
              refine rg ⟨trivial, by omega, trivial⟩ ?_
              refine rg trivial ?_
              refine rg ⟨by ( intros; simp only [inR]; omega), trivial⟩ ?_
              exact hK1 ((v1.1 ++ [(Step.mk v2 v1.2.1)]), 0, v1.2.2 + 1) (by ((simp only [Bool.and_eq_true, decide_eq_true_eq] at *; refine ⟨⟨?_, ?_⟩, ?_⟩ <;> ((try dsimp only); (try simp only [List.length_append, List.length_cons, List.length_nil]); omega)))) (by ((try clear hR hK1 hK2); intros; (try simp only [decide_eq_true_eq, decide_eq_false_iff_not, Bool.or_eq_true, Bool.and_eq_true, or_f_iff, not_f_iff, not_t_iff, Bool.not_eq_true', inR] at *); (repeat' apply And.intro) <;> (intros; omega))) hR
      ·
        refine rg trivial ?_
        exact congrArg C112 hR
  exact Fn.go 50 Try.func112 (by kernel_rfl) (by kernel_rfl) (by simp [C112, Frs, FrsL, FrsB, rowOf, cInt, cBool, cStr, cSl, FrsL_app, cPerson, cUnion, cFamily, cStep, cKinType, cRule, cEntry, cTerminology, cLaw, cCustom, cRegister]) (A112 x0) (by kernel_rfl) (aux _ rfl)
def k112 (x0 : List UInt8) : Cl := (hres (C112 (l3Read x0)), k1 (ok_spec_l3Read x0))
def C111 (R : Int × (List UInt8)) : LV × List (Nat × BC) := (.tup [.int .i64 R.1, .str R.2], [])
def l3Cut (x0 : List UInt8) : Int × (List UInt8) := bif ((decide (1 < ((x0.length : Nat) : Int))) && (((x0.drop 0).take (2 - 0)) == [109, 58])) then (1, (x0.drop 2).take (x0.length - 2)) else (bif ((decide (1 < ((x0.length : Nat) : Int))) && (((x0.drop 0).take (2 - 0)) == [119, 58])) then (2, (x0.drop 2).take (x0.length - 2)) else (0, x0))
def A111 (x0 : List UInt8) : Ann := r0 1 [0, 2, 3] [] (.reg 1 [] [] [0, 2, 3, 11] [] [decide (1 < ((x0.length : Nat) : Int))] [gt (decide (1 < ((x0.length : Nat) : Int))) (pf (0 ≤ (0 : Int) ∧ (0 : Int) ≤ 2 ∧ (2 : Int) ≤ ((x0.length : Nat) : Int)))] [] [1, 0, 1, 1] (cn ((decide (1 < ((x0.length : Nat) : Int))) && (((x0.drop 0).take (2 - 0)) == [109, 58])) (r1 1 [0, 2, 3] [] [pf (0 ≤ (2 : Int) ∧ (2 : Int) ≤ ((x0.length : Nat) : Int) ∧ (((x0.length : Nat) : Int) : Int) ≤ ((x0.length : Nat) : Int))] [0] (rt [] (C111 (1, (x0.drop 2).take (x0.length - 2))))) (.reg 1 [] [] [0, 2, 3, 21] [] [decide (1 < ((x0.length : Nat) : Int))] [gt (decide (1 < ((x0.length : Nat) : Int))) (pf (0 ≤ (0 : Int) ∧ (0 : Int) ≤ 2 ∧ (2 : Int) ≤ ((x0.length : Nat) : Int)))] [] [1, 0, 1, 1] (cn ((decide (1 < ((x0.length : Nat) : Int))) && (((x0.drop 0).take (2 - 0)) == [119, 58])) (r1 1 [0, 2, 3] [] [pf (0 ≤ (2 : Int) ∧ (2 : Int) ≤ ((x0.length : Nat) : Int) ∧ (((x0.length : Nat) : Int) : Int) ≤ ((x0.length : Nat) : Int))] [0] (rt [] (C111 (2, (x0.drop 2).take (x0.length - 2))))) (r0 1 [2, 3] [] (rt [] (C111 (0, x0))))))))
theorem l3Cut_len (s : List UInt8) : (l3Cut s).2.length ≤ s.length := by
  unfold l3Cut
  repeat' refine cond_both (p := fun (r : Int × List UInt8) => r.2.length ≤ s.length) (fun _ => ?_) (fun _ => ?_)
  all_goals simp
theorem ok_spec_l3Cut (x0 : List UInt8) (hx : x0.length ≤ 1048576) : FnT Try.prog 111 [.str x0] (C111 (l3Cut x0)) := by
  have aux : ∀ R, l3Cut x0 = R → slim (C111 R) (A111 x0) [] := by
    intro R hR
    refine rg trivial ?_
    refine rg ⟨by ((try clear hR); intros; (try simp only [decide_eq_true_eq, decide_eq_false_iff_not, Bool.or_eq_true, Bool.and_eq_true, or_f_iff, not_f_iff, not_t_iff, Bool.not_eq_true', inR] at *); (repeat' apply And.intro) <;> (intros; omega)), trivial⟩ ?_
    revert hR; refine cd (fun hc1 hR => ?_) fun hc1 hR => ?_
    ·
      refine rg ⟨by ((try clear hR); intros; (try simp only [decide_eq_true_eq, decide_eq_false_iff_not, Bool.or_eq_true, Bool.and_eq_true, or_f_iff, not_f_iff, not_t_iff, Bool.not_eq_true', inR] at *); (repeat' apply And.intro) <;> (intros; omega)), trivial⟩ ?_
      exact congrArg C111 hR
    ·
      refine rg ⟨by ((try clear hR); intros; (try simp only [decide_eq_true_eq, decide_eq_false_iff_not, Bool.or_eq_true, Bool.and_eq_true, or_f_iff, not_f_iff, not_t_iff, Bool.not_eq_true', inR] at *); (repeat' apply And.intro) <;> (intros; omega)), trivial⟩ ?_
      revert hR; refine cd (fun hc2 hR => ?_) fun hc2 hR => ?_
      ·
        refine rg ⟨by ((try clear hR); intros; (try simp only [decide_eq_true_eq, decide_eq_false_iff_not, Bool.or_eq_true, Bool.and_eq_true, or_f_iff, not_f_iff, not_t_iff, Bool.not_eq_true', inR] at *); (repeat' apply And.intro) <;> (intros; omega)), trivial⟩ ?_
        exact congrArg C111 hR
      ·
        refine rg trivial ?_
        exact congrArg C111 hR
  exact Fn.go 25 Try.func111 (by kernel_rfl) (by kernel_rfl) (by simp [C111, Frs, FrsL]) (A111 x0) (by kernel_rfl) (aux _ rfl)
def k111 (x0 : List UInt8) : Cl := (hres (C111 (l3Cut x0)), k1 (ok_spec_l3Cut x0))
def C62 (R : KinType × Bool) : LV × List (Nat × BC) := (.tup [.agg [.int .i64 R.1.ego, .own 0], .bool R.2], [(0, .arr 2 R.1.steps.length (rowOf (cStep true) R.1.steps))])
def specParType (x0 : List UInt8) : KinType × Bool := bif ((!(specIsType (KinType.mk ((l3Cut x0).1) (l3Read ((l3Cut x0).2))))) || (!((specFmtType (KinType.mk ((l3Cut x0).1) (l3Read ((l3Cut x0).2)))) == x0))) then ((KinType.mk 0 ([] : List Step)), false) else ((KinType.mk ((l3Cut x0).1) (l3Read ((l3Cut x0).2))), true)
def A62 (x0 : List UInt8) : Ann := .reg 3 [] [(1001, k111 x0), (2002, k112 ((l3Cut x0).2))] [0, 2, 3, 6] [2, 6, 1014] [] [] [] [0, 4] (.reg 1 [] [(1, k113 (KinType.mk ((l3Cut x0).1) (l3Read ((l3Cut x0).2)))), (5, cg (!(!(specIsType (KinType.mk ((l3Cut x0).1) (l3Read ((l3Cut x0).2)))))) (k114 (KinType.mk ((l3Cut x0).1) (l3Read ((l3Cut x0).2)))))] [2, 3, 6, 24] [2, 6, 1014] [!(!(specIsType (KinType.mk ((l3Cut x0).1) (l3Read ((l3Cut x0).2))))), !(specIsType (KinType.mk ((l3Cut x0).1) (l3Read ((l3Cut x0).2))))] [] [] [0, 1, 4, 1, 1, 6] (cn ((!(specIsType (KinType.mk ((l3Cut x0).1) (l3Read ((l3Cut x0).2))))) || (!((specFmtType (KinType.mk ((l3Cut x0).1) (l3Read ((l3Cut x0).2)))) == x0))) (r0 1 [2, 3, 6] [2, 6, 1014] (rt [(0, none)] (C62 ((KinType.mk 0 ([] : List Step)), false)))) (r0 1 [2, 3] [2, 1014] (rt [(0, some 1014)] (C62 ((KinType.mk ((l3Cut x0).1) (l3Read ((l3Cut x0).2))), true))))))
theorem ok_spec_ParseType (x0 : List UInt8) (hx : x0.length ≤ 1048576) : FnT Try.prog 62 [.str x0] (C62 (specParType x0)) := by
  have aux : ∀ R, specParType x0 = R → slim (C62 R) (A62 x0) [] := by
    intro R hR
    refine rg ⟨by with_reducible assumption, by (have h9 := l3Cut_len x0; have h8 := l3Read_len (l3Cut x0).2; (try dsimp only); omega), trivial⟩ ?_
    refine rg ⟨by (have h9 := l3Cut_len x0; have h8 := l3Read_len (l3Cut x0).2; (try dsimp only); omega), fun hg0 => by (have h9 := l3Cut_len x0; have h8 := l3Read_len (l3Cut x0).2; (try dsimp only); omega), trivial⟩ ?_
    revert hR; refine cd (fun hc1 hR => ?_) fun hc1 hR => ?_
    ·
      refine rg trivial ?_
      exact congrArg C62 hR
    ·
      refine rg trivial ?_
      exact congrArg C62 hR
  exact Fn.go 27 Try.func62 (by kernel_rfl) (by kernel_rfl) (by simp [C62, Frs, FrsL, FrsB, rowOf, cInt, cBool, cStr, cSl, FrsL_app, cPerson, cUnion, cFamily, cStep, cKinType, cRule, cEntry, cTerminology, cLaw, cCustom, cRegister]) (A62 x0) (by kernel_rfl) (aux _ rfl)
def k62 (x0 : List UInt8) : Cl := (hres (C62 (specParType x0)), k1 (ok_spec_ParseType x0))
end Go.Proofs.Ytaageiiodlfeiaa
