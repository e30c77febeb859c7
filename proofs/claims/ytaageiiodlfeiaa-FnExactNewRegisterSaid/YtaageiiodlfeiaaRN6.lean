import Derived.Test.YtaageiiodlfeiaaRN5
set_option maxHeartbeats 4000000
set_option linter.unusedSimpArgs false
set_option linter.unusedVariables false
namespace Go.Proofs.Ytaageiiodlfeiaa
open Go Go.Lite Go.Proofs
def C118 (R : (List Step) × Bool) : LV × List (Nat × BC) := (.tup [.own 0, .bool R.2], [(0, .arr 2 R.1.length (rowOf (cStep true) R.1))])
def readSt (x0 : List UInt8) : (List Step) × Bool := loopW (fun (v1 : (List Step) × Int) next => bif (decide (v1.2 < ((x0.length : Nat) : Int))) then (jn (fun K1 => bif (decide (((x0.getD v1.2.toNat 0).toNat : Int) = 101)) then (K1 (v1.2 + 1, 1)) else (bif (decide (((x0.getD v1.2.toNat 0).toNat : Int) = 121)) then (K1 (v1.2 + 1, 2)) else (K1 (v1.2, 0)))) (fun (j1 : Int × Int) => bif (decide (j1.1 = ((x0.length : Nat) : Int))) then (([] : List Step), false) else (bif (decide (((idxB [70, 77, 66, 90, 83, 68, 72, 87] ((x0.getD j1.1.toNat 0).toNat : Int)) + 1) = 0)) then (([] : List Step), false) else (next ((v1.1 ++ [(Step.mk ((idxB [70, 77, 66, 90, 83, 68, 72, 87] ((x0.getD j1.1.toNat 0).toNat : Int)) + 1) j1.2)]), j1.1 + 1))))) else (v1.1, true)) (((x0.length : Int) - 0).toNat + 1) (([] : List Step), 0)
def D118b1 (x0 : List UInt8) (v1 : (List Step) × Int) : Dl := ⟨[(4, .own 20004), (5, .int .i64 v1.2)], [(20004, .arr 2 v1.1.length (rowOf (cStep true) v1.1))]⟩
def D118j1 (x0 : List UInt8) (v1 : (List Step) × Int) (j1 : Int × Int) : Dl := ⟨[(5, .int .i64 j1.1)], [(6, .var [.int .i64 0, .int .i64 j1.2])]⟩
def A118j1 (x0 : List UInt8) (v1 : (List Step) × Int) (j1 : Int × Int) : Ann := r0 1 [0, 2, 3, 4, 5, 6, 30] [6, 20004] (cn (decide (j1.1 = ((x0.length : Nat) : Int))) (r0 1 [0, 2, 3, 4, 5, 6] [6, 20004] (rt [(0, none)] (C118 (([] : List Step), false)))) (.reg 1 [] [(3, k169 [70, 77, 66, 90, 83, 68, 72, 87] ((x0.getD j1.1.toNat 0).toNat : Int))] [0, 2, 3, 4, 5, 6] [6, 20004] [] [pf (0 ≤ (j1.1 : Int) ∧ (j1.1 : Int) < ((x0.length : Nat) : Int)), pf (inR .i64 ((idxB [70, 77, 66, 90, 83, 68, 72, 87] ((x0.getD j1.1.toNat 0).toNat : Int)) + 1))] [] [0, 8, 4] (r0 1 [0, 2, 3, 4, 5, 6, 39] [6, 20004] (cn (decide (((idxB [70, 77, 66, 90, 83, 68, 72, 87] ((x0.getD j1.1.toNat 0).toNat : Int)) + 1) = 0)) (r0 1 [0, 2, 3, 4, 5, 6] [6, 20004] (rt [(0, none)] (C118 (([] : List Step), false)))) (.reg 1 [] [(2, bsC 42 (cStep true) ([(Step.mk ((idxB [70, 77, 66, 90, 83, 68, 72, 87] ((x0.getD j1.1.toNat 0).toNat : Int)) + 1) j1.2)] : List Step)), (3, ap1 43 (cStep true) 16 v1.1 (Step.mk ((idxB [70, 77, 66, 90, 83, 68, 72, 87] ((x0.getD j1.1.toNat 0).toNat : Int)) + 1) j1.2))] [0, 2, 3, 4, 5] [43] [] [] [] [0, 4] (r1 1 [0, 2, 3, 4, 5] [43] [pf (inR .i64 (j1.1 + 1))] [0] (.next 0 [(20004, some 43)] (D118b1 x0 ((v1.1 ++ [(Step.mk ((idxB [70, 77, 66, 90, 83, 68, 72, 87] ((x0.getD j1.1.toNat 0).toNat : Int)) + 1) j1.2)]), j1.1 + 1)))))))))
def A118b1 (x0 : List UInt8) (v1 : (List Step) × Int) : Ann := r0 1 [0, 2, 3, 4, 5, 10] [20004] (cn (decide (v1.2 < ((x0.length : Nat) : Int))) (r0 1 [0, 2, 3, 4, 5, 6] [6, 20004] (.join 0 (Int × Int) (D118j1 x0 v1) [0, 2, 3, 4, 5, 6] [20004, 6] (r1 1 [0, 2, 3, 4, 5, 6, 16] [6, 20004] [pf (0 ≤ (v1.2 : Int) ∧ (v1.2 : Int) < ((x0.length : Nat) : Int))] [0] (r0 1 [0, 2, 3, 4, 5, 6, 16, 17] [6, 20004] (cn (decide (((x0.getD v1.2.toNat 0).toNat : Int) = 101)) (r0 1 [0, 2, 3, 4, 5, 6] [6, 20004] (r1 1 [0, 2, 3, 4, 5, 6] [6, 20004] [pf (inR .i64 (v1.2 + 1))] [0] (.next 0 [] (D118j1 x0 v1 (v1.2 + 1, 1))))) (r0 1 [0, 2, 3, 4, 5, 6, 22] [6, 20004] (cn (decide (((x0.getD v1.2.toNat 0).toNat : Int) = 121)) (r0 1 [0, 2, 3, 4, 5, 6] [6, 20004] (r1 1 [0, 2, 3, 4, 5, 6] [6, 20004] [pf (inR .i64 (v1.2 + 1))] [0] (.next 0 [] (D118j1 x0 v1 (v1.2 + 1, 2))))) (.next 0 [] (D118j1 x0 v1 (v1.2, 0)))))))) (A118j1 x0 v1))) (r0 1 [2, 3] [20004] (rt [(0, some 20004)] (C118 (v1.1, true)))))
def A118 (x0 : List UInt8) : Ann := r0 2 [0, 2, 3, 4] [] (r0 1 [0, 2, 3, 4, 5] [] (.loop ((List Step) × Int) (D118b1 x0) [] [] [(20004, none)] (D118b1 x0 (([] : List Step), 0)) (A118b1 x0)))
theorem readSt_len (s : List UInt8) : (readSt s).1.length ≤ s.length := by
  unfold readSt
  refine loopW_to (fun (v : List Step × Int) => v.2 ≤ s.length ∧ (v.1.length : Int) ≤ v.2) (fun v => ((s.length : Int) - v.2).toNat) (fun (r : List Step × Bool) => r.1.length ≤ s.length) (fun v next hv hn => ?_) _ _ (by dsimp only; omega) ⟨by dsimp only; omega, Int.le_refl _⟩
  refine cond_both (p := fun (r : List Step × Bool) => r.1.length ≤ s.length) (fun c => ?_) (fun _ => by dsimp only; omega)
  have c := of_decide_eq_true c
  have go : ∀ j1 : Int × Int, v.2 ≤ j1.1 → j1.1 ≤ v.2 + 1 → (bif (decide (j1.1 = ((s.length : Nat) : Int))) then (([] : List Step), false) else (bif (decide (((idxB [70, 77, 66, 90, 83, 68, 72, 87] ((s.getD j1.1.toNat 0).toNat : Int)) + 1) = 0)) then (([] : List Step), false) else (next ((v.1 ++ [(Step.mk ((idxB [70, 77, 66, 90, 83, 68, 72, 87] ((s.getD j1.1.toNat 0).toNat : Int)) + 1) j1.2)]), j1.1 + 1)))).1.length ≤ s.length := fun j1 h1 h2 => by
    refine cond_both (p := fun (r : List Step × Bool) => r.1.length ≤ s.length) (fun _ => Nat.zero_le _) (fun c2 => cond_both (p := fun (r : List Step × Bool) => r.1.length ≤ s.length) (fun _ => Nat.zero_le _) (fun _ => ?_))
    have c2 := of_decide_eq_false c2
    exact hn _ ⟨by dsimp only; omega, by simp only [List.length_append, List.length_cons, List.length_nil]; omega⟩ (by dsimp only; omega)
  unfold jn
  refine cond_both (p := fun (r : List Step × Bool) => r.1.length ≤ s.length) (fun _ => go _ (by dsimp only; omega) (by dsimp only; omega)) (fun _ => cond_both (p := fun (r : List Step × Bool) => r.1.length ≤ s.length) (fun _ => go _ (by dsimp only; omega) (by dsimp only; omega)) (fun _ => go _ (by dsimp only; omega) (by dsimp only; omega)))
theorem ok_impl_readSteps (x0 : List UInt8) (hx : x0.length ≤ 1048576) : FnT Try.prog 118 [.str x0] (C118 (readSt x0)) := by
  have aux : ∀ R, readSt x0 = R → slim (C118 R) (A118 x0) [] := by
    intro R hR
    refine rg trivial ?_
    refine rg trivial ?_
    revert hR; refine lW (fun v => (0 ≤ v.2 ∧ v.2 ≤ x0.length) ∧ ((v.1 : List Step).length : Int) ≤ v.2) (fun v => ((x0.length : Int) - v.2).toNat) (by ((exact ⟨⟨Int.le_refl _, by (dsimp only; omega)⟩, Int.le_refl _⟩))) (Nat.lt_succ_self _) rfl fun m1 v1 F1 hI1 hM1 hR hK1 => ?_
    refine rg trivial ?_
    revert hR; refine cd (fun hc1 hR => ?_) fun hc1 hR => ?_
    ·
      refine rg trivial ?_
      revert hR; refine jN (fun v => v1.2 ≤ v.1 ∧ v.1 ≤ v1.2 + 1) (fun F101 hR hJ101 => ?_) (fun j1 hR hJ1 => ?_)
      ·
        refine rg ⟨by ((try simp only [decide_eq_true_eq, decide_eq_false_iff_not] at *); (try dsimp only); (try simp only [inR]); omega), trivial⟩ ?_
        refine rg trivial ?_
        revert hR; refine cd (fun hc2 hR => ?_) fun hc2 hR => ?_
        ·
          refine rg trivial ?_
          refine rg ⟨by ((try simp only [decide_eq_true_eq, decide_eq_false_iff_not] at *); (try dsimp only); (try simp only [inR]); omega), trivial⟩ ?_
          exact hJ101 (v1.2 + 1, 1) hR (by (intros; omega))
        ·
          refine rg trivial ?_
          revert hR; refine cd (fun hc3 hR => ?_) fun hc3 hR => ?_
          ·
            refine rg trivial ?_
            refine rg ⟨by ((try simp only [decide_eq_true_eq, decide_eq_false_iff_not] at *); (try dsimp only); (try simp only [inR]); omega), trivial⟩ ?_
            exact hJ101 (v1.2 + 1, 2) hR (by (intros; omega))
          ·
            exact hJ101 (v1.2, 0) hR (by (intros; omega))
      ·
        refine rg trivial ?_
        revert hR; refine cd (fun hc4 hR => ?_) fun hc4 hR => ?_
        ·
          refine rg trivial ?_
          exact congrArg C118 hR
        ·
          refine rg ⟨by (have h9 := idxB_rng [70, 77, 66, 90, 83, 68, 72, 87] ((x0.getD j1.1.toNat 0).toNat : Int); simp only [List.length_cons, List.length_nil] at h9; (try simp only [decide_eq_true_eq, decide_eq_false_iff_not] at *); (try simp only [inR]); omega), by (have h9 := idxB_rng [70, 77, 66, 90, 83, 68, 72, 87] ((x0.getD j1.1.toNat 0).toNat : Int); simp only [List.length_cons, List.length_nil] at h9; (try simp only [decide_eq_true_eq, decide_eq_false_iff_not] at *); (try simp only [inR]); omega), by (decide), trivial⟩ ?_
          refine rg trivial ?_
          revert hR; refine cd (fun hc5 hR => ?_) fun hc5 hR => ?_
          ·
            refine rg trivial ?_
            exact congrArg C118 hR
          ·
            refine rg ⟨trivial, by omega, trivial⟩ ?_
            refine rg ⟨by (have h9 := idxB_rng [70, 77, 66, 90, 83, 68, 72, 87] ((x0.getD j1.1.toNat 0).toNat : Int); simp only [List.length_cons, List.length_nil] at h9; (try simp only [decide_eq_true_eq, decide_eq_false_iff_not] at *); (try simp only [inR]); omega), trivial⟩ ?_
            exact hK1 ((v1.1 ++ [(Step.mk ((idxB [70, 77, 66, 90, 83, 68, 72, 87] ((x0.getD j1.1.toNat 0).toNat : Int)) + 1) j1.2)]), j1.1 + 1) (by (have h9 := idxB_rng [70, 77, 66, 90, 83, 68, 72, 87] ((x0.getD j1.1.toNat 0).toNat : Int); simp only [List.length_cons, List.length_nil] at h9; (try simp only [decide_eq_true_eq, decide_eq_false_iff_not] at *); refine ⟨⟨?_, ?_⟩, ?_⟩ <;> ((try dsimp only); (try simp only [List.length_append, List.length_cons, List.length_nil]); omega))) (by (have h9 := idxB_rng [70, 77, 66, 90, 83, 68, 72, 87] ((x0.getD j1.1.toNat 0).toNat : Int); simp only [List.length_cons, List.length_nil] at h9; (try simp only [decide_eq_true_eq, decide_eq_false_iff_not] at *); (try simp only [inR]); omega)) hR
    ·
      refine rg trivial ?_
      exact congrArg C118 hR
  exact Fn.go 45 Try.func118 (by kernel_rfl) (by kernel_rfl) (by simp [C118, Frs, FrsL, FrsB, rowOf, cInt, cBool, cStr, cSl, FrsL_app, cPerson, cUnion, cFamily, cStep, cKinType, cRule, cEntry, cTerminology, cLaw, cCustom, cRegister]) (A118 x0) (by kernel_rfl) (aux _ rfl)
def k118 (x0 : List UInt8) : Cl := (hres (C118 (readSt x0)), k1 (ok_impl_readSteps x0))
def C204 (R : (List UInt8)) : LV × List (Nat × BC) := (.str R, [])
def stepsTx (x0 : List Step) : (List UInt8) := loopN (fun i1 (v1 : (List UInt8)) next => next (v1 ++ ((([([] : List UInt8), [101], [121]] : List (List UInt8)).getD (((x0.getD i1 default).age).toNat) default) ++ ((([70, 77, 66, 90, 83, 68, 72, 87] : List UInt8).drop ((((x0.getD i1 default).kind) - 1).toNat)).take ((((x0.getD i1 default).kind).toNat) - ((((x0.getD i1 default).kind) - 1).toNat)))))) (fun (v1 : (List UInt8)) => v1) x0.length 0 ([] : List UInt8)
def D204b1 (x0 : List Step) (i1 : Nat) (v1 : (List UInt8)) : Dl := ⟨[(8, .int .i64 ((i1 : Nat) : Int)), (3, .str v1)], []⟩
def A204b1 (x0 : List Step) (i1 : Nat) (v1 : (List UInt8)) : Ann := r0 1 [2, 3, 6, 7, 8, 9] [] (cn (decide (((i1 : Nat) : Int) < ((x0.length : Nat) : Int))) (r1 1 [2, 3, 5, 6, 7, 8] [5] [pf (0 ≤ (((i1 : Nat) : Int) : Int) ∧ (((i1 : Nat) : Int) : Int) < ((x0.length : Nat) : Int))] [0] (.reg 1 [] [(1, bsC 13 (cStr) (([([] : List UInt8), [101], [121]] : List (List UInt8)) : List (List UInt8)))] [2, 3, 6, 7, 8] [] [] [pf (0 ≤ ((x0.getD i1 default).age : Int) ∧ ((x0.getD i1 default).age : Int) < ((3 : Nat) : Int)), pf (inR .i64 (((x0.getD i1 default).kind) - 1)), pf (0 ≤ (((x0.getD i1 default).kind) - 1 : Int) ∧ (((x0.getD i1 default).kind) - 1 : Int) ≤ (x0.getD i1 default).kind ∧ ((x0.getD i1 default).kind : Int) ≤ (([70, 77, 66, 90, 83, 68, 72, 87].length : Nat) : Int)), pf ((((([([] : List UInt8), [101], [121]] : List (List UInt8)).getD (((x0.getD i1 default).age).toNat) default).length + ((([70, 77, 66, 90, 83, 68, 72, 87] : List UInt8).drop ((((x0.getD i1 default).kind) - 1).toNat)).take ((((x0.getD i1 default).kind).toNat) - ((((x0.getD i1 default).kind) - 1).toNat))).length : Nat) : Int) ≤ 9223372036854775807), pf (((v1.length + ((([([] : List UInt8), [101], [121]] : List (List UInt8)).getD (((x0.getD i1 default).age).toNat) default) ++ ((([70, 77, 66, 90, 83, 68, 72, 87] : List UInt8).drop ((((x0.getD i1 default).kind) - 1).toNat)).take ((((x0.getD i1 default).kind).toNat) - ((((x0.getD i1 default).kind) - 1).toNat)))).length : Nat) : Int) ≤ 9223372036854775807)] [] [20, 0, 4, 8, 12, 16] (r1 1 [2, 3, 6, 7, 8] [] [pf (inR .i64 (((i1 : Nat) : Int) + 1))] [0] (.next 0 [] (D204b1 x0 (i1 + 1) (v1 ++ ((([([] : List UInt8), [101], [121]] : List (List UInt8)).getD (((x0.getD i1 default).age).toNat) default) ++ ((([70, 77, 66, 90, 83, 68, 72, 87] : List UInt8).drop ((((x0.getD i1 default).kind) - 1).toNat)).take ((((x0.getD i1 default).kind).toNat) - ((((x0.getD i1 default).kind) - 1).toNat)))))))))) (r0 1 [2] [] (rt [] (C204 v1))))
def A204 (x0 : List Step) : Ann := r0 2 [0, 2, 3] [] (r0 1 [2, 3, 6, 7, 8] [] (lp (D204b1 x0) [] [] [] (D204b1 x0 0 ([] : List UInt8)) (A204b1 x0)))
theorem stepsTx_len (l : List Step) : (stepsTx l).length ≤ 10 * l.length := by
  unfold stepsTx
  refine loopN_to (fun i (v : List UInt8) => v.length ≤ 10 * i) (fun (r : List UInt8) => r.length ≤ 10 * l.length) (Nat.zero_le _) (fun i v next hi hv hn => hn _ ?_) (fun v hv => hv)
  have h8 := getD_short (l := [([] : List UInt8), [101], [121]]) (n := 1) (by decide) (l.getD i default).age.toNat
  simp only [List.length_append, List.length_cons, List.length_nil, List.length_take, List.length_drop]; omega
theorem ok_impl_stepsText (x0 : List Step) (hx : x0.length ≤ 1000) (hs : ∀ s ∈ x0, (1 ≤ s.kind ∧ s.kind ≤ 8) ∧ 0 ≤ s.age ∧ s.age ≤ 2) : FnT Try.prog 204 [.ro false 2 x0.length (rowOf (cStep false) x0)] (C204 (stepsTx x0)) := by
  have aux : ∀ R, stepsTx x0 = R → slim (C204 R) (A204 x0) [] := by
    intro R hR
    refine rg trivial ?_
    refine rg trivial ?_
    revert hR; refine lN (fun i v => (v : List UInt8).length ≤ 10 * i) (by (exact Nat.zero_le _)) rfl fun i1 v1 F1 hn1 hI1 hR hK1 => ?_
    refine rg trivial ?_
    refine ⟨fun hc1 => ?_, fun hc1 => ?_⟩
    · have hii1 : i1 < x0.length := by have := of_decide_eq_true hc1; omega
      replace hR := loopN_step hR hii1
      refine rg ⟨by (intros; omega), trivial⟩ ?_
      refine rg ⟨by (have h9 := hs _ (getD_mem (d := default) hii1); have h8 := getD_short (l := [([] : List UInt8), [101], [121]]) (n := 1) (by decide) (x0.getD i1 default).age.toNat; (try simp only [inR, List.length_append, List.length_cons, List.length_nil, List.length_take, List.length_drop]); omega), by (have h9 := hs _ (getD_mem (d := default) hii1); have h8 := getD_short (l := [([] : List UInt8), [101], [121]]) (n := 1) (by decide) (x0.getD i1 default).age.toNat; (try simp only [inR, List.length_append, List.length_cons, List.length_nil, List.length_take, List.length_drop]); omega), by (have h9 := hs _ (getD_mem (d := default) hii1); have h8 := getD_short (l := [([] : List UInt8), [101], [121]]) (n := 1) (by decide) (x0.getD i1 default).age.toNat; (try simp only [inR, List.length_append, List.length_cons, List.length_nil, List.length_take, List.length_drop]); omega), by (have h9 := hs _ (getD_mem (d := default) hii1); have h8 := getD_short (l := [([] : List UInt8), [101], [121]]) (n := 1) (by decide) (x0.getD i1 default).age.toNat; (try simp only [inR, List.length_append, List.length_cons, List.length_nil, List.length_take, List.length_drop]); omega), by (have h9 := hs _ (getD_mem (d := default) hii1); have h8 := getD_short (l := [([] : List UInt8), [101], [121]]) (n := 1) (by decide) (x0.getD i1 default).age.toNat; (try simp only [inR, List.length_append, List.length_cons, List.length_nil, List.length_take, List.length_drop]); omega), trivial, trivial⟩ ?_
      refine rg ⟨by (have h9 := hs _ (getD_mem (d := default) hii1); have h8 := getD_short (l := [([] : List UInt8), [101], [121]]) (n := 1) (by decide) (x0.getD i1 default).age.toNat; (try simp only [inR, List.length_append, List.length_cons, List.length_nil, List.length_take, List.length_drop]); omega), trivial⟩ ?_
      exact hK1 (v1 ++ ((([([] : List UInt8), [101], [121]] : List (List UInt8)).getD (((x0.getD i1 default).age).toNat) default) ++ ((([70, 77, 66, 90, 83, 68, 72, 87] : List UInt8).drop ((((x0.getD i1 default).kind) - 1).toNat)).take ((((x0.getD i1 default).kind).toNat) - ((((x0.getD i1 default).kind) - 1).toNat))))) hii1 (by (have h9 := hs _ (getD_mem (d := default) hii1); have h8 := getD_short (l := [([] : List UInt8), [101], [121]]) (n := 1) (by decide) (x0.getD i1 default).age.toNat; (try simp only [inR, List.length_append, List.length_cons, List.length_nil, List.length_take, List.length_drop]); omega)) hR
    · obtain rfl : i1 = x0.length := by have := of_decide_eq_false hc1; omega
      replace hR := loopN_end hR (Nat.lt_irrefl _)
      refine rg trivial ?_
      exact congrArg C204 hR
  exact Fn.go 28 Try.func204 (by kernel_rfl) (by kernel_rfl) (by simp [C204, Frs, FrsL]) (A204 x0) (by kernel_rfl) (aux _ rfl)
def k204 (x0 : List Step) : Cl := (hres (C204 (stepsTx x0)), k2 (ok_impl_stepsText x0))
def C205 (R : (List UInt8)) : LV × List (Nat × BC) := (.str R, [])
def orDot (x0 : List UInt8) : (List UInt8) := bif (x0 == ([] : List UInt8)) then [46] else x0
def A205 (x0 : List UInt8) : Ann := r0 1 [0, 2] [] (r0 1 [0, 2, 4] [] (cn (x0 == ([] : List UInt8)) (r0 1 [0, 2] [] (rt [] (C205 [46]))) (r0 1 [2] [] (rt [] (C205 x0)))))
theorem orDot_len (s : List UInt8) : (orDot s).length ≤ s.length + 1 := by
  unfold orDot
  refine cond_both (p := fun (r : List UInt8) => r.length ≤ s.length + 1) (fun _ => by simp) (fun _ => Nat.le_succ _)
theorem ok_impl_orDot (x0 : List UInt8) : FnT Try.prog 205 [.str x0] (C205 (orDot x0)) := by
  have aux : ∀ R, orDot x0 = R → slim (C205 R) (A205 x0) [] := by
    intro R hR
    refine rg trivial ?_
    refine rg trivial ?_
    revert hR; refine cd (fun hc1 hR => ?_) fun hc1 hR => ?_
    ·
      refine rg trivial ?_
      exact congrArg C205 hR
    ·
      refine rg trivial ?_
      exact congrArg C205 hR
  exact Fn.go 6 Try.func205 (by kernel_rfl) (by kernel_rfl) (by simp [C205, Frs, FrsL]) (A205 x0) (by kernel_rfl) (aux _ rfl)
def k205 (x0 : List UInt8) : Cl := (hres (C205 (orDot x0)), k0 (ok_impl_orDot x0))
end Go.Proofs.Ytaageiiodlfeiaa
