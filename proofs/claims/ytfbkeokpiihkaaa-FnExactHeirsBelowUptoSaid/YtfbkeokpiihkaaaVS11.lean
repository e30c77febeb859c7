import Derived.Test.YtfbkeokpiihkaaaM120
set_option maxHeartbeats 4000000
set_option linter.unusedSimpArgs false
set_option linter.unusedVariables false
namespace Go.Proofs.Ytfbkeokpiihkaaa
open Go Go.Lite Go.Proofs
structure Custom where
  prefer : Int
  youngest : Bool
  represent : Bool
  deriving Inhabited
def cCustom (fr : Bool) (x : Custom) : List LV := cInt .i64 x.prefer ++ cBool x.youngest ++ cBool x.represent

def C105 (R : (List Int)) : LV × List (Nat × BC) := (.own 0, [(0, .arr 1 R.length (rowOf (cInt .i64) R))])
def kidsOf (x0 : Int) (x1 : List Int) (x2 : Family) : (List Int) := loopN (fun i1 (v1 : (List Int)) next => bif (decide (((x2.people.getD ((x1.getD i1 default).toNat) default).sex) = x0)) then (next (v1 ++ [(x1.getD i1 default)])) else (next v1)) (fun (v1 : (List Int)) => v1) x1.length 0 ([] : List Int)
def D105b1 (x0 : Int) (x1 : List Int) (x2 : Family) (i1 : Nat) (v1 : (List Int)) : Dl := ⟨[(10, .int .i64 ((i1 : Nat) : Int)), (5, .own 20005)], [(20005, .arr 1 v1.length (rowOf (cInt .i64) v1))]⟩
def A105b1 (x0 : Int) (x1 : List Int) (x2 : Family) (i1 : Nat) (v1 : (List Int)) : Ann := r0 1 [0, 2, 4, 5, 8, 9, 10, 11] [20005] (cn (decide (((i1 : Nat) : Int) < ((x1.length : Nat) : Int))) (r1 2 [0, 2, 4, 5, 7, 8, 9, 10, 21] [20005] [pf (0 ≤ (((i1 : Nat) : Int) : Int) ∧ (((i1 : Nat) : Int) : Int) < ((x1.length : Nat) : Int)), pf (0 ≤ ((x1.getD i1 default) : Int) ∧ ((x1.getD i1 default) : Int) < ((x2.people.length : Nat) : Int))] [0, 4] (cn (decide (((x2.people.getD ((x1.getD i1 default).toNat) default).sex) = x0)) (.reg 1 [] [(2, bsC 24 (cInt .i64) ([(x1.getD i1 default)] : List Int)), (3, ap1 25 (cInt .i64) 8 v1 (x1.getD i1 default))] [0, 2, 4, 5, 8, 9, 10] [25] [] [] [] [0, 4] (r1 1 [0, 2, 4, 5, 8, 9, 10] [25] [pf (inR .i64 (((i1 : Nat) : Int) + 1))] [0] (.next 0 [(20005, some 25)] (D105b1 x0 x1 x2 (i1 + 1) (v1 ++ [(x1.getD i1 default)]))))) (r1 1 [0, 2, 4, 5, 8, 9, 10] [20005] [pf (inR .i64 (((i1 : Nat) : Int) + 1))] [0] (.next 0 [(20005, some 20005)] (D105b1 x0 x1 x2 (i1 + 1) v1))))) (r0 1 [4] [20005] (rt [(0, some 20005)] (C105 v1))))
def A105 (x0 : Int) (x1 : List Int) (x2 : Family) : Ann := r0 2 [0, 1, 2, 4, 5] [] (r0 1 [0, 2, 4, 5, 8, 9, 10] [] (lp (D105b1 x0 x1 x2) [] [] [(20005, none)] (D105b1 x0 x1 x2 0 ([] : List Int)) (A105b1 x0 x1 x2)))
theorem kidsOf_len (s : Int) (l : List Int) (f : Family) : (kidsOf s l f).length ≤ l.length := by
  unfold kidsOf
  exact loopN_to (fun i (v : List Int) => v.length ≤ i) (fun (r : List Int) => r.length ≤ l.length) (by simp) (fun i v next hi hv hn => cond_both (p := fun (r : List Int) => r.length ≤ l.length) (fun _ => hn _ (by simp; omega)) (fun _ => hn _ (by omega))) (fun v hv => hv)
theorem ok_swap {f : Family} {l : List Int} (h : ∀ c ∈ l, 0 ≤ c ∧ c < f.people.length) {i j a b : Nat} (hi : i < l.length) (hj : j < l.length) : ∀ c ∈ (l.set a (l.getD j default)).set b (l.getD i default), 0 ≤ c ∧ c < f.people.length := fun c hc => by
  rcases List.mem_or_eq_of_mem_set hc with hc | hc
  · rcases List.mem_or_eq_of_mem_set hc with hc | hc
    · exact h c hc
    · rw [hc]; exact h _ (getD_mem hj)
  · rw [hc]; exact h _ (getD_mem hi)
theorem ok_impl_orderChildren_1 (x0 : Int) (x1 : List Int) (x2 : Family) (hx : x1.length ≤ 1048576) (hk : ∀ c ∈ x1, 0 ≤ c ∧ c < x2.people.length) : FnT Try.prog 105 [.int .i64 x0, .ep [.ro false 1 x1.length (rowOf (cInt .i64) x1)] 0, .ep [.ro false 6 x2.people.length (rowOf (cPerson false) x2.people), .ro false 4 x2.unions.length (rowOf (cUnion false) x2.unions)] 0] (C105 (kidsOf x0 x1 x2)) := by
  have aux : ∀ R, kidsOf x0 x1 x2 = R → slim (C105 R) (A105 x0 x1 x2) [] := by
    intro R hR
    refine rg trivial ?_
    refine rg trivial ?_
    revert hR; refine lN (fun i v => v.length ≤ i) (by trivial) rfl fun i1 v1 F1 hn1 hI1 hR hK1 => ?_
    refine rg trivial ?_
    refine ⟨fun hc1 => ?_, fun hc1 => ?_⟩
    · have hii1 : i1 < x1.length := by have := of_decide_eq_true hc1; omega
      replace hR := loopN_step hR hii1
      refine rg ⟨by (intros; omega), by ((try clear hR hK1); intros; (try simp only [decide_eq_true_eq, decide_eq_false_iff_not, Bool.or_eq_true, Bool.and_eq_true, or_f_iff, not_f_iff, not_t_iff, Bool.not_eq_true', inR] at *); (repeat' apply And.intro) <;> (simp_all [inR]; done)), trivial⟩ ?_
      revert hR; refine cd (fun hc2 hR => ?_) fun hc2 hR => ?_
      ·
        refine rg ⟨trivial, by omega, trivial⟩ ?_
        refine rg ⟨by ( intros; simp only [inR]; omega), trivial⟩ ?_
        exact hK1 (v1 ++ [(x1.getD i1 default)]) hii1 (by ((try simp only [decide_eq_true_eq, decide_eq_false_iff_not, List.length_append, List.length_set, List.length_cons, List.length_nil, List.length_replicate] at *); omega)) hR
      ·
        refine rg ⟨by ( intros; simp only [inR]; omega), trivial⟩ ?_
        exact hK1 v1 hii1 (by (intros; omega)) hR
    · obtain rfl : i1 = x1.length := by have := of_decide_eq_false hc1; omega
      replace hR := loopN_end hR (Nat.lt_irrefl _)
      refine rg trivial ?_
      exact congrArg C105 hR
  exact Fn.go 28 Try.func105 (by kernel_rfl) (by kernel_rfl) (by simp [C105, Frs, FrsL, FrsB, rowOf, cInt, cBool, cStr, cSl, FrsL_app, cPerson, cUnion, cFamily]) (A105 x0 x1 x2) (by kernel_rfl) (aux _ rfl)
def k105 (x0 : Int) (x1 : List Int) (x2 : Family) : Cl := (hres (C105 (kidsOf x0 x1 x2)), k2 (ok_impl_orderChildren_1 x0 x1 x2))
def C82 (R : (List Int)) : LV × List (Nat × BC) := (.own 0, [(0, .arr 1 R.length (rowOf (cInt .i64) R))])
def implOrder (x0 : Family) (x1 : Custom) (x2 : Int) : (List Int) := jn (fun K1 => bif x1.youngest then (loopW (fun (v1 : Int × Int × (List Int)) next => bif (decide (v1.1 < v1.2.1)) then (next (v1.1 + 1, v1.2.1 - 1, ((v1.2.2.set v1.1.toNat (v1.2.2.getD v1.2.1.toNat default)).set v1.2.1.toNat (v1.2.2.getD v1.1.toNat default)))) else (K1 v1.2.2)) (((((implKids x0 x2).length : Nat) : Int) - 1 - (0) + 2).toNat + 1) (0, (((implKids x0 x2).length : Nat) : Int) - 1, implKids x0 x2)) else (K1 (implKids x0 x2))) (fun (j1 : (List Int)) => bif (decide (x1.prefer = 1)) then ((kidsOf 1 j1 x0) ++ (kidsOf 2 j1 x0)) else (bif (decide (x1.prefer = 2)) then ((kidsOf 2 j1 x0) ++ (kidsOf 1 j1 x0)) else (bif (decide (x1.prefer = 3)) then (kidsOf 1 j1 x0) else (bif (decide (x1.prefer = 4)) then (kidsOf 2 j1 x0) else j1))))
def D82j1 (x0 : Family) (x1 : Custom) (x2 : Int) (j1 : (List Int)) : Dl := ⟨[], [(30700, .arr 1 j1.length (rowOf (cInt .i64) j1)), (7, .var [.own 30700])]⟩
def D82b1 (x0 : Family) (x1 : Custom) (x2 : Int) (v1 : Int × Int × (List Int)) : Dl := ⟨[(8, .int .i64 v1.1), (9, .int .i64 v1.2.1)], [(30700, .arr 1 v1.2.2.length (rowOf (cInt .i64) v1.2.2)), (7, .var [.own 30700])]⟩
def A82b1 (x0 : Family) (x1 : Custom) (x2 : Int) (v1 : Int × Int × (List Int)) : Ann := r0 1 [3, 4, 6, 7, 8, 9, 21] [3, 4, 7, 30700] (cn (decide (v1.1 < v1.2.1)) (.reg 1 [] [(13, stL 30700 (cInt .i64) v1.2.2 v1.1.toNat (v1.2.2.getD v1.2.1.toNat default)), (15, stL 30700 (cInt .i64) (v1.2.2.set v1.1.toNat (v1.2.2.getD v1.2.1.toNat default)) v1.2.1.toNat (v1.2.2.getD v1.1.toNat default))] [3, 4, 6, 7, 8, 9] [3, 4, 7, 30700] [] [pf (0 ≤ (v1.2.1 : Int) ∧ (v1.2.1 : Int) < ((v1.2.2.length : Nat) : Int)), pf (0 ≤ (v1.1 : Int) ∧ (v1.1 : Int) < ((v1.2.2.length : Nat) : Int)), pf (0 ≤ (v1.2.1 : Int) ∧ (v1.2.1 : Int) < (((v1.2.2.set v1.1.toNat (v1.2.2.getD v1.2.1.toNat default)).length : Nat) : Int))] [] [0, 4, 4, 12, 8, 16] (r1 1 [3, 4, 6, 7, 8, 9] [3, 4, 7, 30700] [pf (inR .i64 (v1.1 + 1)), pf (inR .i64 (v1.2.1 - 1))] [0, 4] (.next 0 [(30700, some 30700)] (D82b1 x0 x1 x2 (v1.1 + 1, v1.2.1 - 1, ((v1.2.2.set v1.1.toNat (v1.2.2.getD v1.2.1.toNat default)).set v1.2.1.toNat (v1.2.2.getD v1.1.toNat default))))))) (.next 1 [(30700, some 30700)] (D82j1 x0 x1 x2 v1.2.2)))
def A82j1 (x0 : Family) (x1 : Custom) (x2 : Int) (j1 : (List Int)) : Ann := r0 1 [4, 6, 7, 10] [3, 4, 7, 30700] (r0 1 [6, 7, 10, 42] [3, 7, 30700] (r0 1 [6, 7, 10, 42, 43] [3, 7, 30700] (cn (decide (x1.prefer = 1)) (.reg 1 [] [(1, k105 1 j1 x0), (3, k105 2 j1 x0), (4, apC 49 (cInt .i64) 8 (kidsOf 1 j1 x0) (kidsOf 2 j1 x0))] [6, 7] [7, 49, 30700] [] [] [] [0, 4, 8] (rt [(0, some 49)] (C82 ((kidsOf 1 j1 x0) ++ (kidsOf 2 j1 x0))))) (r0 1 [6, 7, 10, 42, 50] [3, 7, 30700] (cn (decide (x1.prefer = 2)) (.reg 1 [] [(1, k105 2 j1 x0), (3, k105 1 j1 x0), (4, apC 56 (cInt .i64) 8 (kidsOf 2 j1 x0) (kidsOf 1 j1 x0))] [6, 7] [7, 56, 30700] [] [] [] [0, 4, 8] (rt [(0, some 56)] (C82 ((kidsOf 2 j1 x0) ++ (kidsOf 1 j1 x0))))) (r0 1 [6, 7, 10, 42, 57] [3, 7, 30700] (cn (decide (x1.prefer = 3)) (.reg 1 [] [(1, k105 1 j1 x0)] [6, 7] [7, 1060, 30700] [] [] [] [0] (rt [(0, some 1060)] (C82 (kidsOf 1 j1 x0)))) (r0 1 [6, 7, 10, 61] [3, 7, 30700] (cn (decide (x1.prefer = 4)) (.reg 1 [] [(1, k105 2 j1 x0)] [6, 7] [7, 1064, 30700] [] [] [] [0] (rt [(0, some 1064)] (C82 (kidsOf 2 j1 x0)))) (r0 1 [6] [30700] (rt [(0, some 30700)] (C82 j1))))))))))))
def A82 (x0 : Family) (x1 : Custom) (x2 : Int) : Ann := .reg 2 [] [(1002, k104 x0 x2)] [3, 4, 6, 7] [3, 4, 7, 1013] [] [] [] [0] (.join 0 (List Int) (D82j1 x0 x1 x2) [3, 4, 6, 7] [3, 4, 7] (r0 1 [3, 4, 6, 7, 15] [3, 4, 7, 1013] (cn x1.youngest (r1 1 [3, 4, 6, 7, 8, 9] [3, 4, 7, 1013] [pf (inR .i64 ((((implKids x0 x2).length : Nat) : Int) - 1))] [0] (.loop (Int × Int × (List Int)) (D82b1 x0 x1 x2) [] [1013] [(30700, some 1013)] (D82b1 x0 x1 x2 (0, (((implKids x0 x2).length : Nat) : Int) - 1, implKids x0 x2)) (A82b1 x0 x1 x2))) (.next 0 [(30700, some 1013)] (D82j1 x0 x1 x2 (implKids x0 x2))))) (A82j1 x0 x1 x2))
theorem ok_impl_orderChildren (x0 : Family) (x1 : Custom) (x2 : Int) (hf : x0.people.length ≤ 40) : FnT Try.prog 82 [.agg (cFamily false x0), .agg (cCustom false x1), .int .i64 x2] (C82 (implOrder x0 x1 x2)) := by
  have aux : ∀ R, implOrder x0 x1 x2 = R → slim (C82 R) (A82 x0 x1 x2) [] := by
    intro R hR
    refine rg ⟨by trivial, trivial⟩ ?_
    revert hR; refine jN (fun v => (∀ c ∈ v, 0 ≤ c ∧ c < x0.people.length) ∧ v.length ≤ 40) (fun F101 hR hJ101 => ?_) (fun j1 hR hJ1 => ?_)
    ·
      refine rg trivial ?_
      revert hR; refine cd (fun hc1 hR => ?_) fun hc1 hR => ?_
      ·
        refine rg ⟨by ((try clear hR hJ101); intros; (try simp only [decide_eq_true_eq, decide_eq_false_iff_not, Bool.or_eq_true, Bool.and_eq_true, or_f_iff, not_f_iff, not_t_iff, Bool.not_eq_true', inR] at *); (repeat' apply And.intro) <;> (first | (intros; omega) | (have h9 := implKids_ok x0 x2 hf; omega))), trivial⟩ ?_
        revert hR; refine lW (fun v => (0 ≤ v.1 ∧ v.1 ≤ v.2.1 + 2 ∧ v.2.1 < v.2.2.length) ∧ (∀ c ∈ v.2.2, 0 ≤ c ∧ c < x0.people.length) ∧ v.2.2.length ≤ 40) (fun v => (v.2.1 - (v.1) + 2).toNat) (by ((try clear hR hJ101); intros; (try simp only [decide_eq_true_eq, decide_eq_false_iff_not, Bool.or_eq_true, Bool.and_eq_true, or_f_iff, not_f_iff, not_t_iff, Bool.not_eq_true', inR] at *); (repeat' apply And.intro) <;> (first | (intros; omega) | (have h9 := implKids_ok x0 x2 hf; omega) | (exact (implKids_ok x0 x2 hf).1)))) (Nat.lt_succ_self _) rfl fun m1 v1 F1 hI1 hM1 hR hK1 => ?_
        refine rg trivial ?_
        revert hR; refine cd (fun hc2 hR => ?_) fun hc2 hR => ?_
        ·
          refine rg ⟨by (simp only [List.length_set, decide_eq_true_eq] at *; omega), by (simp only [List.length_set, decide_eq_true_eq] at *; omega), by (simp only [List.length_set, decide_eq_true_eq] at *; omega), by (simp only [List.length_set, decide_eq_true_eq] at *; omega), by (simp only [List.length_set, decide_eq_true_eq] at *; omega), trivial⟩ ?_
          refine rg ⟨by ( intros; simp only [inR]; omega), by ( intros; simp only [inR]; omega), trivial⟩ ?_
          exact hK1 (v1.1 + 1, v1.2.1 - 1, ((v1.2.2.set v1.1.toNat (v1.2.2.getD v1.2.1.toNat default)).set v1.2.1.toNat (v1.2.2.getD v1.1.toNat default))) (by (have hc2 := of_decide_eq_true hc2; refine ⟨by (dsimp only; simp only [List.length_set]; omega), ok_swap hI1.2.1 (by omega) (by omega), by (dsimp only; simp only [List.length_set]; omega)⟩)) (by (simp only [List.length_set, decide_eq_true_eq] at *; omega)) hR
        ·
          exact hJ101 v1.2.2 hR (by (exact hI1.2))
      ·
        exact hJ101 (implKids x0 x2) hR (by (refine ⟨(implKids_ok x0 x2 hf).1, ?_⟩; have h9 := implKids_ok x0 x2 hf; omega))
    ·
      refine rg trivial ?_
      refine rg trivial ?_
      refine rg trivial ?_
      revert hR; refine cd (fun hc3 hR => ?_) fun hc3 hR => ?_
      ·
        refine rg ⟨⟨by (intros; omega), by (exact hJ1.1)⟩, ⟨by (intros; omega), by (exact hJ1.1)⟩, by (have h8 := kidsOf_len 1 j1 x0; have h9 := kidsOf_len 2 j1 x0; omega), trivial⟩ ?_
        exact congrArg C82 hR
      ·
        refine rg trivial ?_
        revert hR; refine cd (fun hc4 hR => ?_) fun hc4 hR => ?_
        ·
          refine rg ⟨⟨by (intros; omega), by (exact hJ1.1)⟩, ⟨by (intros; omega), by (exact hJ1.1)⟩, by (have h8 := kidsOf_len 1 j1 x0; have h9 := kidsOf_len 2 j1 x0; omega), trivial⟩ ?_
          exact congrArg C82 hR
        ·
          refine rg trivial ?_
          revert hR; refine cd (fun hc5 hR => ?_) fun hc5 hR => ?_
          ·
            refine rg ⟨⟨by (intros; omega), by (exact hJ1.1)⟩, trivial⟩ ?_
            exact congrArg C82 hR
          ·
            refine rg trivial ?_
            revert hR; refine cd (fun hc6 hR => ?_) fun hc6 hR => ?_
            ·
              refine rg ⟨⟨by (intros; omega), by (exact hJ1.1)⟩, trivial⟩ ?_
              exact congrArg C82 hR
            ·
              refine rg trivial ?_
              exact congrArg C82 hR
  exact Fn.go 66 Try.func82 (by kernel_rfl) (by kernel_rfl) (by simp [C82, Frs, FrsL, FrsB, rowOf, cInt, cBool, cStr, cSl, FrsL_app, cPerson, cUnion, cFamily, cCustom]) (A82 x0 x1 x2) (by kernel_rfl) (aux _ rfl)
def k82 (x0 : Family) (x1 : Custom) (x2 : Int) : Cl := (hres (C82 (implOrder x0 x1 x2)), k1 (ok_impl_orderChildren x0 x1 x2))
def C103 (R : (List Int)) : LV × List (Nat × BC) := (.own 0, [(0, .arr 1 R.length (rowOf (cInt .i64) R))])
def l10Of (x0 : Family) (x1 : Custom) (x2 : List Int) (x3 : Int) : (List Int) := loopN (fun i1 (v1 : (List Int)) next => bif ((!decide (x3 = 0)) && (!decide (((x0.people.getD ((x2.getD i1 default).toNat) default).sex) = x3))) then (next v1) else (bif x1.youngest then (next ([(x2.getD i1 default)] ++ v1)) else (next (v1 ++ [(x2.getD i1 default)])))) (fun (v1 : (List Int)) => v1) x2.length 0 ([] : List Int)
def D103b1 (x0 : Family) (x1 : Custom) (x2 : List Int) (x3 : Int) (i1 : Nat) (v1 : (List Int)) : Dl := ⟨[(15, .int .i64 ((i1 : Nat) : Int)), (9, .own 20009)], [(20009, .arr 1 v1.length (rowOf (cInt .i64) v1))]⟩
def A103b1 (x0 : Family) (x1 : Custom) (x2 : List Int) (x3 : Int) (i1 : Nat) (v1 : (List Int)) : Ann := r0 1 [3, 4, 5, 8, 9, 13, 14, 15, 16] [4, 5, 20009] (cn (decide (((i1 : Nat) : Int) < ((x2.length : Nat) : Int))) (r1 1 [3, 4, 5, 8, 9, 11, 13, 14, 15] [4, 5, 20009] [pf (0 ≤ (((i1 : Nat) : Int) : Int) ∧ (((i1 : Nat) : Int) : Int) < ((x2.length : Nat) : Int))] [0] (.reg 1 [] [] [3, 4, 5, 8, 9, 11, 13, 14, 15, 30] [4, 5, 20009] [!decide (x3 = 0)] [gt (!decide (x3 = 0)) (pf (0 ≤ ((x2.getD i1 default) : Int) ∧ ((x2.getD i1 default) : Int) < ((x0.people.length : Nat) : Int)))] [] [1, 1, 1, 0, 1, 1, 1, 1, 1] (cn ((!decide (x3 = 0)) && (!decide (((x0.people.getD ((x2.getD i1 default).toNat) default).sex) = x3))) (r1 1 [3, 4, 5, 8, 9, 13, 14, 15] [4, 5, 20009] [pf (inR .i64 (((i1 : Nat) : Int) + 1))] [0] (.next 0 [(20009, some 20009)] (D103b1 x0 x1 x2 x3 (i1 + 1) v1))) (r0 1 [3, 4, 5, 8, 9, 11, 13, 14, 15, 32] [4, 5, 20009] (cn x1.youngest (.reg 1 [] [(1, bsC 34 (cInt .i64) ([(x2.getD i1 default)] : List Int)), (3, apC 36 (cInt .i64) 8 [(x2.getD i1 default)] v1)] [3, 4, 5, 8, 9, 13, 14, 15] [4, 5, 36] [] [] [] [0, 4] (r1 1 [3, 4, 5, 8, 9, 13, 14, 15] [4, 5, 36] [pf (inR .i64 (((i1 : Nat) : Int) + 1))] [0] (.next 0 [(20009, some 36)] (D103b1 x0 x1 x2 x3 (i1 + 1) ([(x2.getD i1 default)] ++ v1))))) (.reg 1 [] [(2, bsC 39 (cInt .i64) ([(x2.getD i1 default)] : List Int)), (3, ap1 40 (cInt .i64) 8 v1 (x2.getD i1 default))] [3, 4, 5, 8, 9, 13, 14, 15] [4, 5, 40] [] [] [] [0, 4] (r1 1 [3, 4, 5, 8, 9, 13, 14, 15] [4, 5, 40] [pf (inR .i64 (((i1 : Nat) : Int) + 1))] [0] (.next 0 [(20009, some 40)] (D103b1 x0 x1 x2 x3 (i1 + 1) (v1 ++ [(x2.getD i1 default)])))))))))) (r0 1 [8] [20009] (rt [(0, some 20009)] (C103 v1))))
def A103 (x0 : Family) (x1 : Custom) (x2 : List Int) (x3 : Int) : Ann := .reg 2 [] [(1000, bsC 12 (cInt .i64) ([] : List Int))] [2, 3, 4, 5, 8, 9] [4, 5, 12] [] [] [] [0] (r0 1 [3, 4, 5, 8, 9, 13, 14, 15] [4, 5, 12] (lp (D103b1 x0 x1 x2 x3) [] [12] [(20009, some 12)] (D103b1 x0 x1 x2 x3 0 ([] : List Int)) (A103b1 x0 x1 x2 x3)))
theorem l10Of_len (f : Family) (x : Custom) (l : List Int) (s : Int) : (l10Of f x l s).length ≤ l.length := by
  unfold l10Of
  refine loopN_to (fun i (v : List Int) => v.length ≤ i) (fun (r : List Int) => r.length ≤ l.length) (by simp) (fun i v next hi hv hn => ?_) (fun v hv => hv)
  refine cond_both (p := fun (r : List Int) => r.length ≤ l.length) (fun _ => hn _ (by omega)) (fun _ => ?_)
  exact cond_both (p := fun (r : List Int) => r.length ≤ l.length) (fun _ => hn _ (by simp; omega)) (fun _ => hn _ (by simp; omega))
theorem ok_spec_l10Of (x0 : Family) (x1 : Custom) (x2 : List Int) (x3 : Int) (hf : x0.people.length ≤ 40) (hx : x2.length ≤ 40) (hk : ∀ c ∈ x2, 0 ≤ c ∧ c < x0.people.length) : FnT Try.prog 103 [.agg (cFamily false x0), .agg (cCustom false x1), .ro false 1 x2.length (rowOf (cInt .i64) x2), .int .i64 x3] (C103 (l10Of x0 x1 x2 x3)) := by
  have aux : ∀ R, l10Of x0 x1 x2 x3 = R → slim (C103 R) (A103 x0 x1 x2 x3) [] := by
    intro R hR
    refine rg ⟨trivial, trivial⟩ ?_
    refine rg trivial ?_
    revert hR; refine lN (fun i v => v.length ≤ i) (by trivial) rfl fun i1 v1 F1 hn1 hI1 hR hK1 => ?_
    refine rg trivial ?_
    refine ⟨fun hc1 => ?_, fun hc1 => ?_⟩
    · have hii1 : i1 < x2.length := by have := of_decide_eq_true hc1; omega
      replace hR := loopN_step hR hii1
      refine rg ⟨by (intros; omega), trivial⟩ ?_
      refine rg ⟨by ((try clear hR hK1); intros; (try simp only [decide_eq_true_eq, decide_eq_false_iff_not, Bool.or_eq_true, Bool.and_eq_true, or_f_iff, not_f_iff, not_t_iff, Bool.not_eq_true', inR] at *); (repeat' apply And.intro) <;> (simp_all [inR]; done)), trivial⟩ ?_
      revert hR; refine cd (fun hc2 hR => ?_) fun hc2 hR => ?_
      ·
        refine rg ⟨by ( intros; simp only [inR]; omega), trivial⟩ ?_
        exact hK1 v1 hii1 (by (intros; omega)) hR
      ·
        refine rg trivial ?_
        revert hR; refine cd (fun hc3 hR => ?_) fun hc3 hR => ?_
        ·
          refine rg ⟨trivial, by (simp; omega), trivial⟩ ?_
          refine rg ⟨by ( intros; simp only [inR]; omega), trivial⟩ ?_
          exact hK1 ([(x2.getD i1 default)] ++ v1) hii1 (by ((try simp only [decide_eq_true_eq, decide_eq_false_iff_not, List.length_append, List.length_set, List.length_cons, List.length_nil, List.length_replicate] at *); omega)) hR
        ·
          refine rg ⟨trivial, by omega, trivial⟩ ?_
          refine rg ⟨by ( intros; simp only [inR]; omega), trivial⟩ ?_
          exact hK1 (v1 ++ [(x2.getD i1 default)]) hii1 (by ((try simp only [decide_eq_true_eq, decide_eq_false_iff_not, List.length_append, List.length_set, List.length_cons, List.length_nil, List.length_replicate] at *); omega)) hR
    · obtain rfl : i1 = x2.length := by have := of_decide_eq_false hc1; omega
      replace hR := loopN_end hR (Nat.lt_irrefl _)
      refine rg trivial ?_
      exact congrArg C103 hR
  exact Fn.go 43 Try.func103 (by kernel_rfl) (by kernel_rfl) (by simp [C103, Frs, FrsL, FrsB, rowOf, cInt, cBool, cStr, cSl, FrsL_app, cPerson, cUnion, cFamily, cCustom]) (A103 x0 x1 x2 x3) (by kernel_rfl) (aux _ rfl)
def k103 (x0 : Family) (x1 : Custom) (x2 : List Int) (x3 : Int) : Cl := (hres (C103 (l10Of x0 x1 x2 x3)), k3 (ok_spec_l10Of x0 x1 x2 x3))
def C80 (R : (List Int)) : LV × List (Nat × BC) := (.own 0, [(0, .arr 1 R.length (rowOf (cInt .i64) R))])
def l10Children (x0 : Family) (x1 : Custom) (x2 : Int) : (List Int) := bif (decide (x1.prefer = 1)) then ((l10Of x0 x1 (l1Children x0 x2) 1) ++ (l10Of x0 x1 (l1Children x0 x2) 2)) else (bif (decide (x1.prefer = 2)) then ((l10Of x0 x1 (l1Children x0 x2) 2) ++ (l10Of x0 x1 (l1Children x0 x2) 1)) else (bif (decide (x1.prefer = 3)) then (l10Of x0 x1 (l1Children x0 x2) 1) else (bif (decide (x1.prefer = 4)) then (l10Of x0 x1 (l1Children x0 x2) 2) else (l10Of x0 x1 (l1Children x0 x2) 0))))
def A80 (x0 : Family) (x1 : Custom) (x2 : Int) : Ann := .reg 2 [] [(1002, k102 x0 x2)] [3, 4, 6, 7] [3, 4, 1010] [] [] [] [0] (r0 1 [3, 4, 6, 7, 12] [3, 4, 1010] (r0 1 [3, 4, 6, 7, 12, 13] [3, 4, 1010] (cn (decide (x1.prefer = 1)) (.reg 1 [] [(3, k103 x0 x1 (l1Children x0 x2) 1), (7, k103 x0 x1 (l1Children x0 x2) 2), (8, apC 23 (cInt .i64) 8 (l10Of x0 x1 (l1Children x0 x2) 1) (l10Of x0 x1 (l1Children x0 x2) 2))] [3, 4, 6, 7] [3, 4, 23, 1010] [] [] [] [0, 4, 8] (rt [(0, some 23)] (C80 ((l10Of x0 x1 (l1Children x0 x2) 1) ++ (l10Of x0 x1 (l1Children x0 x2) 2))))) (r0 1 [3, 4, 6, 7, 12, 24] [3, 4, 1010] (cn (decide (x1.prefer = 2)) (.reg 1 [] [(3, k103 x0 x1 (l1Children x0 x2) 2), (7, k103 x0 x1 (l1Children x0 x2) 1), (8, apC 34 (cInt .i64) 8 (l10Of x0 x1 (l1Children x0 x2) 2) (l10Of x0 x1 (l1Children x0 x2) 1))] [3, 4, 6, 7] [3, 4, 34, 1010] [] [] [] [0, 4, 8] (rt [(0, some 34)] (C80 ((l10Of x0 x1 (l1Children x0 x2) 2) ++ (l10Of x0 x1 (l1Children x0 x2) 1))))) (r0 1 [3, 4, 6, 7, 12, 35] [3, 4, 1010] (cn (decide (x1.prefer = 3)) (.reg 1 [] [(3, k103 x0 x1 (l1Children x0 x2) 1)] [3, 4, 6, 7] [3, 4, 1010, 1040] [] [] [] [0] (rt [(0, some 1040)] (C80 (l10Of x0 x1 (l1Children x0 x2) 1)))) (r0 1 [3, 4, 6, 7, 41] [3, 4, 1010] (cn (decide (x1.prefer = 4)) (.reg 1 [] [(3, k103 x0 x1 (l1Children x0 x2) 2)] [3, 4, 6, 7] [3, 4, 1010, 1046] [] [] [] [0] (rt [(0, some 1046)] (C80 (l10Of x0 x1 (l1Children x0 x2) 2)))) (.reg 1 [] [(3, k103 x0 x1 (l1Children x0 x2) 0)] [6] [1050] [] [] [] [0] (rt [(0, some 1050)] (C80 (l10Of x0 x1 (l1Children x0 x2) 0)))))))))))))
theorem ok_spec_l10Children (x0 : Family) (x1 : Custom) (x2 : Int) (hf : x0.people.length ≤ 40) : FnT Try.prog 80 [.agg (cFamily false x0), .agg (cCustom false x1), .int .i64 x2] (C80 (l10Children x0 x1 x2)) := by
  have aux : ∀ R, l10Children x0 x1 x2 = R → slim (C80 R) (A80 x0 x1 x2) [] := by
    intro R hR
    refine rg ⟨by (intros; omega), trivial⟩ ?_
    refine rg trivial ?_
    refine rg trivial ?_
    revert hR; refine cd (fun hc1 hR => ?_) fun hc1 hR => ?_
    ·
      refine rg ⟨⟨by trivial, by (have h9 := l1Children_okl x0 x2; have h8 := l10Of_len x0 x1 (l1Children x0 x2) 1; have h7 := l10Of_len x0 x1 (l1Children x0 x2) 2; omega), by (exact (l1Children_okl x0 x2).1)⟩, ⟨by trivial, by (have h9 := l1Children_okl x0 x2; have h8 := l10Of_len x0 x1 (l1Children x0 x2) 1; have h7 := l10Of_len x0 x1 (l1Children x0 x2) 2; omega), by (exact (l1Children_okl x0 x2).1)⟩, by (have h9 := l1Children_okl x0 x2; have h8 := l10Of_len x0 x1 (l1Children x0 x2) 1; have h7 := l10Of_len x0 x1 (l1Children x0 x2) 2; omega), trivial⟩ ?_
      exact congrArg C80 hR
    ·
      refine rg trivial ?_
      revert hR; refine cd (fun hc2 hR => ?_) fun hc2 hR => ?_
      ·
        refine rg ⟨⟨by trivial, by (have h9 := l1Children_okl x0 x2; have h8 := l10Of_len x0 x1 (l1Children x0 x2) 1; have h7 := l10Of_len x0 x1 (l1Children x0 x2) 2; omega), by (exact (l1Children_okl x0 x2).1)⟩, ⟨by trivial, by (have h9 := l1Children_okl x0 x2; have h8 := l10Of_len x0 x1 (l1Children x0 x2) 1; have h7 := l10Of_len x0 x1 (l1Children x0 x2) 2; omega), by (exact (l1Children_okl x0 x2).1)⟩, by (have h9 := l1Children_okl x0 x2; have h8 := l10Of_len x0 x1 (l1Children x0 x2) 1; have h7 := l10Of_len x0 x1 (l1Children x0 x2) 2; omega), trivial⟩ ?_
        exact congrArg C80 hR
      ·
        refine rg trivial ?_
        revert hR; refine cd (fun hc3 hR => ?_) fun hc3 hR => ?_
        ·
          refine rg ⟨⟨by trivial, by (have h9 := l1Children_okl x0 x2; have h8 := l10Of_len x0 x1 (l1Children x0 x2) 1; have h7 := l10Of_len x0 x1 (l1Children x0 x2) 2; omega), by (exact (l1Children_okl x0 x2).1)⟩, trivial⟩ ?_
          exact congrArg C80 hR
        ·
          refine rg trivial ?_
          revert hR; refine cd (fun hc4 hR => ?_) fun hc4 hR => ?_
          ·
            refine rg ⟨⟨by trivial, by (have h9 := l1Children_okl x0 x2; have h8 := l10Of_len x0 x1 (l1Children x0 x2) 1; have h7 := l10Of_len x0 x1 (l1Children x0 x2) 2; omega), by (exact (l1Children_okl x0 x2).1)⟩, trivial⟩ ?_
            exact congrArg C80 hR
          ·
            refine rg ⟨⟨by trivial, by (have h9 := l1Children_okl x0 x2; have h8 := l10Of_len x0 x1 (l1Children x0 x2) 1; have h7 := l10Of_len x0 x1 (l1Children x0 x2) 2; omega), by (exact (l1Children_okl x0 x2).1)⟩, trivial⟩ ?_
            exact congrArg C80 hR
  exact Fn.go 51 Try.func80 (by kernel_rfl) (by kernel_rfl) (by simp [C80, Frs, FrsL, FrsB, rowOf, cInt, cBool, cStr, cSl, FrsL_app, cPerson, cUnion, cFamily, cCustom]) (A80 x0 x1 x2) (by kernel_rfl) (aux _ rfl)
def k80 (x0 : Family) (x1 : Custom) (x2 : Int) : Cl := (hres (C80 (l10Children x0 x1 x2)), k1 (ok_spec_l10Children x0 x1 x2))
end Go.Proofs.Ytfbkeokpiihkaaa
