import Derived.Test.YtepefimocflfkabDoorM211
set_option maxHeartbeats 4000000
set_option linter.unusedSimpArgs false
set_option linter.unusedVariables false
namespace Go.Proofs.YtepefimocflfkabDoor
open Go Go.Lite Go.Proofs
def C10 (R : Law × Bool) : LV × List (Nat × BC) := (.tup [.agg [.int .i64 R.1.degree, .int .i64 R.1.canon, .int .i64 R.1.affinity, .int .i64 R.1.age, .int .i64 R.1.wives, .int .i64 R.1.husbands, .bool R.1.patriline, .bool R.1.matriline], .bool R.2], [])
def implParseLaw (x0 : List UInt8) : Law × Bool := bif (!decide ((((splitS x0 [32]).length : Nat) : Int) = 16)) then ((Law.mk 0 0 0 0 0 0 false false), false) else (loopN (fun i1 (v1 : (List Int)) next => bif (!((readYear ((splitS x0 [32]).getD (((2 * ((i1 : Nat) : Int)) + 1).toNat) default)).2)) then ((Law.mk 0 0 0 0 0 0 false false), false) else (next (v1.set i1 ((readYear ((splitS x0 [32]).getD (((2 * ((i1 : Nat) : Int)) + 1).toNat) default)).1)))) (fun (v1 : (List Int)) => bif ((!(implIsLaw (Law.mk (v1.getD 0 default) (v1.getD 1 default) (v1.getD 2 default) (v1.getD 3 default) (v1.getD 4 default) (v1.getD 5 default) (((splitS x0 [32]).getD 13 default) == [121, 101, 115]) (((splitS x0 [32]).getD 15 default) == [121, 101, 115])))) || (!((implFmtLaw (Law.mk (v1.getD 0 default) (v1.getD 1 default) (v1.getD 2 default) (v1.getD 3 default) (v1.getD 4 default) (v1.getD 5 default) (((splitS x0 [32]).getD 13 default) == [121, 101, 115]) (((splitS x0 [32]).getD 15 default) == [121, 101, 115]))) == x0))) then ((Law.mk 0 0 0 0 0 0 false false), false) else ((Law.mk (v1.getD 0 default) (v1.getD 1 default) (v1.getD 2 default) (v1.getD 3 default) (v1.getD 4 default) (v1.getD 5 default) (((splitS x0 [32]).getD 13 default) == [121, 101, 115]) (((splitS x0 [32]).getD 15 default) == [121, 101, 115])), true)) 6 0 [default, default, default, default, default, default])
def D10b1 (x0 : List UInt8) (i1 : Nat) (v1 : (List Int)) : Dl := ⟨[(16, .int .i64 ((i1 : Nat) : Int)), (5, .ap 20005 1 0 0)], [(20005, .arr 1 v1.length (rowOf (cInt .i64) v1))]⟩
def A10b1 (x0 : List UInt8) (i1 : Nat) (v1 : (List Int)) : Ann := r0 1 [0, 2, 3, 4, 5, 16, 17] [2, 1011, 20005] (cn (decide (((i1 : Nat) : Int) < 6)) (.reg 2 [] [(1006, k25 ((splitS x0 [32]).getD (((2 * ((i1 : Nat) : Int)) + 1).toNat) default))] [0, 2, 3, 4, 5, 6, 7, 8, 16] [2, 1011, 20005] [] [pf (inR .i64 (2 * ((i1 : Nat) : Int))), pf (inR .i64 ((2 * ((i1 : Nat) : Int)) + 1)), pf (0 ≤ ((2 * ((i1 : Nat) : Int)) + 1 : Int) ∧ ((2 * ((i1 : Nat) : Int)) + 1 : Int) < (((splitS x0 [32]).length : Nat) : Int))] [] [0, 4, 8, 12] (r0 1 [0, 2, 3, 4, 5, 6, 7, 16, 30] [2, 1011, 20005] (cn (!((readYear ((splitS x0 [32]).getD (((2 * ((i1 : Nat) : Int)) + 1).toNat) default)).2)) (r0 1 [0, 2, 3, 4, 5, 6, 7, 16] [2, 1011, 20005] (rt [] (C10 ((Law.mk 0 0 0 0 0 0 false false), false)))) (.reg 1 [] [(3, stL 20005 (cInt .i64) v1 i1 ((readYear ((splitS x0 [32]).getD (((2 * ((i1 : Nat) : Int)) + 1).toNat) default)).1))] [0, 2, 3, 4, 5, 16] [2, 1011, 20005] [] [pf (0 ≤ (((i1 : Nat) : Int) : Int) ∧ (((i1 : Nat) : Int) : Int) < ((6 : Nat) : Int)), pf ((((i1 : Nat) : Int) : Int) < ((v1.length : Nat) : Int))] [] [0, 4, 8] (r1 1 [0, 2, 3, 4, 5, 16] [2, 1011, 20005] [pf (inR .i64 (((i1 : Nat) : Int) + 1))] [0] (.next 0 [(20005, some 20005)] (D10b1 x0 (i1 + 1) (v1.set i1 ((readYear ((splitS x0 [32]).getD (((2 * ((i1 : Nat) : Int)) + 1).toNat) default)).1))))))))) (r1 1 [0, 2, 3, 9] [2, 9] [pf (0 ≤ (0 : Int) ∧ (0 : Int) < ((6 : Nat) : Int)), pf ((0 : Int) < ((v1.length : Nat) : Int)), pf (0 ≤ (1 : Int) ∧ (1 : Int) < ((6 : Nat) : Int)), pf ((1 : Int) < ((v1.length : Nat) : Int)), pf (0 ≤ (2 : Int) ∧ (2 : Int) < ((6 : Nat) : Int)), pf ((2 : Int) < ((v1.length : Nat) : Int)), pf (0 ≤ (3 : Int) ∧ (3 : Int) < ((6 : Nat) : Int)), pf ((3 : Int) < ((v1.length : Nat) : Int)), pf (0 ≤ (4 : Int) ∧ (4 : Int) < ((6 : Nat) : Int)), pf ((4 : Int) < ((v1.length : Nat) : Int)), pf (0 ≤ (5 : Int) ∧ (5 : Int) < ((6 : Nat) : Int)), pf ((5 : Int) < ((v1.length : Nat) : Int)), pf (0 ≤ (13 : Int) ∧ (13 : Int) < (((splitS x0 [32]).length : Nat) : Int)), pf (0 ≤ (15 : Int) ∧ (15 : Int) < (((splitS x0 [32]).length : Nat) : Int))] [0, 4, 8, 12, 16, 20, 24, 28, 32, 36, 40, 44, 48, 52] (.reg 1 [] [(1, k19 (Law.mk (v1.getD 0 default) (v1.getD 1 default) (v1.getD 2 default) (v1.getD 3 default) (v1.getD 4 default) (v1.getD 5 default) (((splitS x0 [32]).getD 13 default) == [121, 101, 115]) (((splitS x0 [32]).getD 15 default) == [121, 101, 115]))), (5, cg (!(!(implIsLaw (Law.mk (v1.getD 0 default) (v1.getD 1 default) (v1.getD 2 default) (v1.getD 3 default) (v1.getD 4 default) (v1.getD 5 default) (((splitS x0 [32]).getD 13 default) == [121, 101, 115]) (((splitS x0 [32]).getD 15 default) == [121, 101, 115]))))) (k8 (Law.mk (v1.getD 0 default) (v1.getD 1 default) (v1.getD 2 default) (v1.getD 3 default) (v1.getD 4 default) (v1.getD 5 default) (((splitS x0 [32]).getD 13 default) == [121, 101, 115]) (((splitS x0 [32]).getD 15 default) == [121, 101, 115]))))] [2, 3, 9, 65] [2, 9] [!(!(implIsLaw (Law.mk (v1.getD 0 default) (v1.getD 1 default) (v1.getD 2 default) (v1.getD 3 default) (v1.getD 4 default) (v1.getD 5 default) (((splitS x0 [32]).getD 13 default) == [121, 101, 115]) (((splitS x0 [32]).getD 15 default) == [121, 101, 115])))), !(implIsLaw (Law.mk (v1.getD 0 default) (v1.getD 1 default) (v1.getD 2 default) (v1.getD 3 default) (v1.getD 4 default) (v1.getD 5 default) (((splitS x0 [32]).getD 13 default) == [121, 101, 115]) (((splitS x0 [32]).getD 15 default) == [121, 101, 115])))] [] [] [0, 1, 4, 1, 1, 6] (cn ((!(implIsLaw (Law.mk (v1.getD 0 default) (v1.getD 1 default) (v1.getD 2 default) (v1.getD 3 default) (v1.getD 4 default) (v1.getD 5 default) (((splitS x0 [32]).getD 13 default) == [121, 101, 115]) (((splitS x0 [32]).getD 15 default) == [121, 101, 115])))) || (!((implFmtLaw (Law.mk (v1.getD 0 default) (v1.getD 1 default) (v1.getD 2 default) (v1.getD 3 default) (v1.getD 4 default) (v1.getD 5 default) (((splitS x0 [32]).getD 13 default) == [121, 101, 115]) (((splitS x0 [32]).getD 15 default) == [121, 101, 115]))) == x0))) (r0 1 [2, 3, 9] [2, 9] (rt [] (C10 ((Law.mk 0 0 0 0 0 0 false false), false)))) (r0 1 [2, 3] [2] (rt [] (C10 ((Law.mk (v1.getD 0 default) (v1.getD 1 default) (v1.getD 2 default) (v1.getD 3 default) (v1.getD 4 default) (v1.getD 5 default) (((splitS x0 [32]).getD 13 default) == [121, 101, 115]) (((splitS x0 [32]).getD 15 default) == [121, 101, 115])), true))))))))
def A10 (x0 : List UInt8) : Ann := .reg 2 [] [(1001, k24 x0 [32])] [0, 2, 3, 4] [2, 1011] [] [] [] [0] (r0 1 [0, 2, 3, 4, 14] [2, 1011] (cn (!decide ((((splitS x0 [32]).length : Nat) : Int) = 16)) (r0 1 [0, 2, 3, 4] [2, 1011] (rt [] (C10 ((Law.mk 0 0 0 0 0 0 false false), false)))) (.reg 1 [] [(0, bsC 5 (cInt .i64) ([default, default, default, default, default, default] : List Int))] [0, 2, 3, 4, 5] [2, 5, 1011] [] [] [] [0] (r0 1 [0, 2, 3, 4, 5, 16] [2, 5, 1011] (lp (D10b1 x0) [] [5] [(20005, some 5)] (D10b1 x0 0 [default, default, default, default, default, default]) (A10b1 x0))))))
theorem ok_impl_ParseLaw (x0 : List UInt8) (h : x0.length ≤ 1048576) : FnT Tryd.prog 10 [.str x0] (C10 (implParseLaw x0)) := by
  have aux : ∀ R, implParseLaw x0 = R → slim (C10 R) (A10 x0) [] := by
    intro R hR
    refine rg ⟨by trivial, trivial⟩ ?_
    refine rg trivial ?_
    revert hR; refine cd (fun hc1 hR => ?_) fun hc1 hR => ?_
    ·
      refine rg trivial ?_
      exact congrArg C10 hR
    ·
      refine rg ⟨trivial, trivial⟩ ?_
      refine rg trivial ?_
      revert hR; refine lN (fun i v => v.length = 6) (by trivial) rfl fun i1 v1 F1 hn1 hI1 hR hK1 => ?_
      refine rg trivial ?_
      refine ⟨fun hc2 => ?_, fun hc2 => ?_⟩
      · have hii1 : i1 < 6 := by have := of_decide_eq_true hc2; omega
        replace hR := loopN_step hR hii1
        refine rg ⟨by ( intros; simp only [inR]; omega), by ( intros; simp only [inR]; omega), by ((try clear hR hK1); intros; (try simp only [decide_eq_true_eq, decide_eq_false_iff_not, Bool.or_eq_true, Bool.and_eq_true, or_f_iff, not_f_iff, not_t_iff, Bool.not_eq_true', inR] at *); (repeat' apply And.intro) <;> (intros; omega)), trivial, trivial⟩ ?_
        refine rg trivial ?_
        revert hR; refine cd (fun hc3 hR => ?_) fun hc3 hR => ?_
        ·
          refine rg trivial ?_
          exact congrArg C10 hR
        ·
          refine rg ⟨by (intros; omega), by (intros; omega), by (intros; omega), trivial⟩ ?_
          refine rg ⟨by ( intros; simp only [inR]; omega), trivial⟩ ?_
          exact hK1 (v1.set i1 ((readYear ((splitS x0 [32]).getD (((2 * ((i1 : Nat) : Int)) + 1).toNat) default)).1)) hii1 (by ((try clear hR hK1); intros; (try simp only [decide_eq_true_eq, decide_eq_false_iff_not, Bool.or_eq_true, Bool.and_eq_true, or_f_iff, not_f_iff, not_t_iff, Bool.not_eq_true', inR] at *); (repeat' apply And.intro) <;> (simp_all [inR]; done))) hR
      · obtain rfl : i1 = 6 := by have := of_decide_eq_false hc2; omega
        replace hR := loopN_end hR (Nat.lt_irrefl _)
        refine rg ⟨by trivial, by (intros; omega), by trivial, by (intros; omega), by trivial, by (intros; omega), by trivial, by (intros; omega), by trivial, by (intros; omega), by trivial, by (intros; omega), by ((try clear hR hK1); intros; (try simp only [decide_eq_true_eq, decide_eq_false_iff_not, Bool.or_eq_true, Bool.and_eq_true, or_f_iff, not_f_iff, not_t_iff, Bool.not_eq_true', inR] at *); (repeat' apply And.intro) <;> (intros; omega)), by ((try clear hR hK1); intros; (try simp only [decide_eq_true_eq, decide_eq_false_iff_not, Bool.or_eq_true, Bool.and_eq_true, or_f_iff, not_f_iff, not_t_iff, Bool.not_eq_true', inR] at *); (repeat' apply And.intro) <;> (intros; omega)), trivial⟩ ?_
        refine rg ⟨trivial, fun hg0 => trivial, trivial⟩ ?_
        revert hR; refine cd (fun hc4 hR => ?_) fun hc4 hR => ?_
        ·
          refine rg trivial ?_
          exact congrArg C10 hR
        ·
          refine rg trivial ?_
          exact congrArg C10 hR
  exact Fn.go 68 Tryd.func10 (by kernel_rfl) (by kernel_rfl) (by simp [C10, Frs, FrsL]) (A10 x0) (by kernel_rfl) (aux _ rfl)
def k10 (x0 : List UInt8) : Cl := (hres (C10 (implParseLaw x0)), k1 (ok_impl_ParseLaw x0))
def C9 (R : Law × Bool) : LV × List (Nat × BC) := (.tup [.agg [.int .i64 R.1.degree, .int .i64 R.1.canon, .int .i64 R.1.affinity, .int .i64 R.1.age, .int .i64 R.1.wives, .int .i64 R.1.husbands, .bool R.1.patriline, .bool R.1.matriline], .bool R.2], [])
def specParseLaw (x0 : List UInt8) : Law × Bool := bif (!decide ((((l1Split x0 32).length : Nat) : Int) = 16)) then ((Law.mk 0 0 0 0 0 0 false false), false) else (bif ((!(specIsLaw (Law.mk (l1Read ((l1Split x0 32).getD 1 default)) (l1Read ((l1Split x0 32).getD 3 default)) (l1Read ((l1Split x0 32).getD 5 default)) (l1Read ((l1Split x0 32).getD 7 default)) (l1Read ((l1Split x0 32).getD 9 default)) (l1Read ((l1Split x0 32).getD 11 default)) (((l1Split x0 32).getD 13 default) == [121, 101, 115]) (((l1Split x0 32).getD 15 default) == [121, 101, 115])))) || (!((specFmtLaw (Law.mk (l1Read ((l1Split x0 32).getD 1 default)) (l1Read ((l1Split x0 32).getD 3 default)) (l1Read ((l1Split x0 32).getD 5 default)) (l1Read ((l1Split x0 32).getD 7 default)) (l1Read ((l1Split x0 32).getD 9 default)) (l1Read ((l1Split x0 32).getD 11 default)) (((l1Split x0 32).getD 13 default) == [121, 101, 115]) (((l1Split x0 32).getD 15 default) == [121, 101, 115]))) == x0))) then ((Law.mk 0 0 0 0 0 0 false false), false) else ((Law.mk (l1Read ((l1Split x0 32).getD 1 default)) (l1Read ((l1Split x0 32).getD 3 default)) (l1Read ((l1Split x0 32).getD 5 default)) (l1Read ((l1Split x0 32).getD 7 default)) (l1Read ((l1Split x0 32).getD 9 default)) (l1Read ((l1Split x0 32).getD 11 default)) (((l1Split x0 32).getD 13 default) == [121, 101, 115]) (((l1Split x0 32).getD 15 default) == [121, 101, 115])), true))
def A9 (x0 : List UInt8) : Ann := .reg 2 [] [(1001, k22 x0 32)] [0, 2, 3, 4] [2, 1007] [] [] [] [0] (r0 1 [0, 2, 3, 4, 10] [2, 1007] (cn (!decide ((((l1Split x0 32).length : Nat) : Int) = 16)) (r0 1 [0, 2, 3, 4] [2, 1007] (rt [] (C9 ((Law.mk 0 0 0 0 0 0 false false), false)))) (.reg 1 [] [(3, k23 ((l1Split x0 32).getD 1 default)), (7, k23 ((l1Split x0 32).getD 3 default)), (11, k23 ((l1Split x0 32).getD 5 default)), (15, k23 ((l1Split x0 32).getD 7 default)), (19, k23 ((l1Split x0 32).getD 9 default)), (23, k23 ((l1Split x0 32).getD 11 default))] [0, 2, 3, 5] [2, 5] [] [pf (0 ≤ (1 : Int) ∧ (1 : Int) < (((l1Split x0 32).length : Nat) : Int)), pf (0 ≤ (3 : Int) ∧ (3 : Int) < (((l1Split x0 32).length : Nat) : Int)), pf (0 ≤ (5 : Int) ∧ (5 : Int) < (((l1Split x0 32).length : Nat) : Int)), pf (0 ≤ (7 : Int) ∧ (7 : Int) < (((l1Split x0 32).length : Nat) : Int)), pf (0 ≤ (9 : Int) ∧ (9 : Int) < (((l1Split x0 32).length : Nat) : Int)), pf (0 ≤ (11 : Int) ∧ (11 : Int) < (((l1Split x0 32).length : Nat) : Int)), pf (0 ≤ (13 : Int) ∧ (13 : Int) < (((l1Split x0 32).length : Nat) : Int)), pf (0 ≤ (15 : Int) ∧ (15 : Int) < (((l1Split x0 32).length : Nat) : Int))] [] [0, 32, 4, 36, 8, 40, 12, 44, 16, 48, 20, 52, 24, 28] (.reg 1 [] [(1, k16 (Law.mk (l1Read ((l1Split x0 32).getD 1 default)) (l1Read ((l1Split x0 32).getD 3 default)) (l1Read ((l1Split x0 32).getD 5 default)) (l1Read ((l1Split x0 32).getD 7 default)) (l1Read ((l1Split x0 32).getD 9 default)) (l1Read ((l1Split x0 32).getD 11 default)) (((l1Split x0 32).getD 13 default) == [121, 101, 115]) (((l1Split x0 32).getD 15 default) == [121, 101, 115]))), (5, cg (!(!(specIsLaw (Law.mk (l1Read ((l1Split x0 32).getD 1 default)) (l1Read ((l1Split x0 32).getD 3 default)) (l1Read ((l1Split x0 32).getD 5 default)) (l1Read ((l1Split x0 32).getD 7 default)) (l1Read ((l1Split x0 32).getD 9 default)) (l1Read ((l1Split x0 32).getD 11 default)) (((l1Split x0 32).getD 13 default) == [121, 101, 115]) (((l1Split x0 32).getD 15 default) == [121, 101, 115]))))) (k6 (Law.mk (l1Read ((l1Split x0 32).getD 1 default)) (l1Read ((l1Split x0 32).getD 3 default)) (l1Read ((l1Split x0 32).getD 5 default)) (l1Read ((l1Split x0 32).getD 7 default)) (l1Read ((l1Split x0 32).getD 9 default)) (l1Read ((l1Split x0 32).getD 11 default)) (((l1Split x0 32).getD 13 default) == [121, 101, 115]) (((l1Split x0 32).getD 15 default) == [121, 101, 115]))))] [2, 3, 5, 53] [2, 5] [!(!(specIsLaw (Law.mk (l1Read ((l1Split x0 32).getD 1 default)) (l1Read ((l1Split x0 32).getD 3 default)) (l1Read ((l1Split x0 32).getD 5 default)) (l1Read ((l1Split x0 32).getD 7 default)) (l1Read ((l1Split x0 32).getD 9 default)) (l1Read ((l1Split x0 32).getD 11 default)) (((l1Split x0 32).getD 13 default) == [121, 101, 115]) (((l1Split x0 32).getD 15 default) == [121, 101, 115])))), !(specIsLaw (Law.mk (l1Read ((l1Split x0 32).getD 1 default)) (l1Read ((l1Split x0 32).getD 3 default)) (l1Read ((l1Split x0 32).getD 5 default)) (l1Read ((l1Split x0 32).getD 7 default)) (l1Read ((l1Split x0 32).getD 9 default)) (l1Read ((l1Split x0 32).getD 11 default)) (((l1Split x0 32).getD 13 default) == [121, 101, 115]) (((l1Split x0 32).getD 15 default) == [121, 101, 115])))] [] [] [0, 1, 4, 1, 1, 6] (cn ((!(specIsLaw (Law.mk (l1Read ((l1Split x0 32).getD 1 default)) (l1Read ((l1Split x0 32).getD 3 default)) (l1Read ((l1Split x0 32).getD 5 default)) (l1Read ((l1Split x0 32).getD 7 default)) (l1Read ((l1Split x0 32).getD 9 default)) (l1Read ((l1Split x0 32).getD 11 default)) (((l1Split x0 32).getD 13 default) == [121, 101, 115]) (((l1Split x0 32).getD 15 default) == [121, 101, 115])))) || (!((specFmtLaw (Law.mk (l1Read ((l1Split x0 32).getD 1 default)) (l1Read ((l1Split x0 32).getD 3 default)) (l1Read ((l1Split x0 32).getD 5 default)) (l1Read ((l1Split x0 32).getD 7 default)) (l1Read ((l1Split x0 32).getD 9 default)) (l1Read ((l1Split x0 32).getD 11 default)) (((l1Split x0 32).getD 13 default) == [121, 101, 115]) (((l1Split x0 32).getD 15 default) == [121, 101, 115]))) == x0))) (r0 1 [2, 3, 5] [2, 5] (rt [] (C9 ((Law.mk 0 0 0 0 0 0 false false), false)))) (r0 1 [2, 3] [2] (rt [] (C9 ((Law.mk (l1Read ((l1Split x0 32).getD 1 default)) (l1Read ((l1Split x0 32).getD 3 default)) (l1Read ((l1Split x0 32).getD 5 default)) (l1Read ((l1Split x0 32).getD 7 default)) (l1Read ((l1Split x0 32).getD 9 default)) (l1Read ((l1Split x0 32).getD 11 default)) (((l1Split x0 32).getD 13 default) == [121, 101, 115]) (((l1Split x0 32).getD 15 default) == [121, 101, 115])), true)))))))))
theorem ok_spec_ParseLaw (x0 : List UInt8) (h : x0.length ≤ 1048576) : FnT Tryd.prog 9 [.str x0] (C9 (specParseLaw x0)) := by
  have aux : ∀ R, specParseLaw x0 = R → slim (C9 R) (A9 x0) [] := by
    intro R hR
    refine rg ⟨by trivial, trivial⟩ ?_
    refine rg trivial ?_
    revert hR; refine cd (fun hc1 hR => ?_) fun hc1 hR => ?_
    ·
      refine rg trivial ?_
      exact congrArg C9 hR
    ·
      refine rg ⟨by ((try clear hR); intros; (try simp only [decide_eq_true_eq, decide_eq_false_iff_not, Bool.or_eq_true, Bool.and_eq_true, or_f_iff, not_f_iff, not_t_iff, Bool.not_eq_true', inR] at *); (repeat' apply And.intro) <;> (intros; omega)), by ((try clear hR); intros; (try simp only [decide_eq_true_eq, decide_eq_false_iff_not, Bool.or_eq_true, Bool.and_eq_true, or_f_iff, not_f_iff, not_t_iff, Bool.not_eq_true', inR] at *); (repeat' apply And.intro) <;> (intros; omega)), by ((try clear hR); intros; (try simp only [decide_eq_true_eq, decide_eq_false_iff_not, Bool.or_eq_true, Bool.and_eq_true, or_f_iff, not_f_iff, not_t_iff, Bool.not_eq_true', inR] at *); (repeat' apply And.intro) <;> (intros; omega)), by ((try clear hR); intros; (try simp only [decide_eq_true_eq, decide_eq_false_iff_not, Bool.or_eq_true, Bool.and_eq_true, or_f_iff, not_f_iff, not_t_iff, Bool.not_eq_true', inR] at *); (repeat' apply And.intro) <;> (intros; omega)), by ((try clear hR); intros; (try simp only [decide_eq_true_eq, decide_eq_false_iff_not, Bool.or_eq_true, Bool.and_eq_true, or_f_iff, not_f_iff, not_t_iff, Bool.not_eq_true', inR] at *); (repeat' apply And.intro) <;> (intros; omega)), by ((try clear hR); intros; (try simp only [decide_eq_true_eq, decide_eq_false_iff_not, Bool.or_eq_true, Bool.and_eq_true, or_f_iff, not_f_iff, not_t_iff, Bool.not_eq_true', inR] at *); (repeat' apply And.intro) <;> (intros; omega)), by ((try clear hR); intros; (try simp only [decide_eq_true_eq, decide_eq_false_iff_not, Bool.or_eq_true, Bool.and_eq_true, or_f_iff, not_f_iff, not_t_iff, Bool.not_eq_true', inR] at *); (repeat' apply And.intro) <;> (intros; omega)), by ((try clear hR); intros; (try simp only [decide_eq_true_eq, decide_eq_false_iff_not, Bool.or_eq_true, Bool.and_eq_true, or_f_iff, not_f_iff, not_t_iff, Bool.not_eq_true', inR] at *); (repeat' apply And.intro) <;> (intros; omega)), trivial, trivial, trivial, trivial, trivial, trivial, trivial⟩ ?_
      refine rg ⟨trivial, fun hg0 => trivial, trivial⟩ ?_
      revert hR; refine cd (fun hc2 hR => ?_) fun hc2 hR => ?_
      ·
        refine rg trivial ?_
        exact congrArg C9 hR
      ·
        refine rg trivial ?_
        exact congrArg C9 hR
  exact Fn.go 56 Tryd.func9 (by kernel_rfl) (by kernel_rfl) (by simp [C9, Frs, FrsL]) (A9 x0) (by kernel_rfl) (aux _ rfl)
def k9 (x0 : List UInt8) : Cl := (hres (C9 (specParseLaw x0)), k1 (ok_spec_ParseLaw x0))
def C11 (R : Bool) : LV × List (Nat × BC) := (.bool R, [])
def eqLaw (x0 : Law) (x1 : Law) : Bool := bif (!decide (x0.degree = x1.degree)) then false else (bif (!decide (x0.canon = x1.canon)) then false else (bif (!decide (x0.affinity = x1.affinity)) then false else (bif (!decide (x0.age = x1.age)) then false else (bif (!decide (x0.wives = x1.wives)) then false else (bif (!decide (x0.husbands = x1.husbands)) then false else (bif (!(x0.patriline == x1.patriline)) then false else (bif (!(x0.matriline == x1.matriline)) then false else true)))))))
def A11 (x0 : Law) (x1 : Law) : Ann := r0 1 [2, 3, 4] [2, 3] (r0 1 [2, 3, 4, 9] [2, 3] (cn (!decide (x0.degree = x1.degree)) (r0 1 [2, 3, 4] [2, 3] (rt [] (C11 false))) (r0 1 [2, 3, 4, 14] [2, 3] (cn (!decide (x0.canon = x1.canon)) (r0 1 [2, 3, 4] [2, 3] (rt [] (C11 false))) (r0 1 [2, 3, 4, 19] [2, 3] (cn (!decide (x0.affinity = x1.affinity)) (r0 1 [2, 3, 4] [2, 3] (rt [] (C11 false))) (r0 1 [2, 3, 4, 24] [2, 3] (cn (!decide (x0.age = x1.age)) (r0 1 [2, 3, 4] [2, 3] (rt [] (C11 false))) (r0 1 [2, 3, 4, 29] [2, 3] (cn (!decide (x0.wives = x1.wives)) (r0 1 [2, 3, 4] [2, 3] (rt [] (C11 false))) (r0 1 [2, 3, 4, 34] [2, 3] (cn (!decide (x0.husbands = x1.husbands)) (r0 1 [2, 3, 4] [2, 3] (rt [] (C11 false))) (r0 1 [2, 3, 4, 39] [2, 3] (cn (!(x0.patriline == x1.patriline)) (r0 1 [2, 3, 4] [2, 3] (rt [] (C11 false))) (r0 1 [4, 44] [] (cn (!(x0.matriline == x1.matriline)) (r0 1 [4] [] (rt [] (C11 false))) (r0 1 [4] [] (rt [] (C11 true)))))))))))))))))))
theorem ok_laws_eqLaw (x0 : Law) (x1 : Law) : FnT Tryd.prog 11 [.agg (cLaw false x0), .agg (cLaw false x1)] (C11 (eqLaw x0 x1)) := by
  have aux : ∀ R, eqLaw x0 x1 = R → slim (C11 R) (A11 x0 x1) [] := by
    intro R hR
    refine rg trivial ?_
    refine rg trivial ?_
    revert hR; refine cd (fun hc1 hR => ?_) fun hc1 hR => ?_
    ·
      refine rg trivial ?_
      exact congrArg C11 hR
    ·
      refine rg trivial ?_
      revert hR; refine cd (fun hc2 hR => ?_) fun hc2 hR => ?_
      ·
        refine rg trivial ?_
        exact congrArg C11 hR
      ·
        refine rg trivial ?_
        revert hR; refine cd (fun hc3 hR => ?_) fun hc3 hR => ?_
        ·
          refine rg trivial ?_
          exact congrArg C11 hR
        ·
          refine rg trivial ?_
          revert hR; refine cd (fun hc4 hR => ?_) fun hc4 hR => ?_
          ·
            refine rg trivial ?_
            exact congrArg C11 hR
          ·
            refine rg trivial ?_
            revert hR; refine cd (fun hc5 hR => ?_) fun hc5 hR => ?_
            ·
              refine rg trivial ?_
              exact congrArg C11 hR
            ·
              refine rg trivial ?_
              revert hR; refine cd (fun hc6 hR => ?_) fun hc6 hR => ?_
              ·
                refine rg trivial ?_
                exact congrArg C11 hR
              ·
                refine rg trivial ?_
                revert hR; refine cd (fun hc7 hR => ?_) fun hc7 hR => ?_
                ·
                  refine rg trivial ?_
                  exact congrArg C11 hR
                ·
                  refine rg trivial ?_
                  revert hR; refine cd (fun hc8 hR => ?_) fun hc8 hR => ?_
                  ·
                    refine rg trivial ?_
                    exact congrArg C11 hR
                  ·
                    refine rg trivial ?_
                    exact congrArg C11 hR
  exact Fn.go 45 Tryd.func11 (by kernel_rfl) (by kernel_rfl) (by simp [C11, Frs, FrsL]) (A11 x0 x1) (by kernel_rfl) (aux _ rfl)
def k11 (x0 : Law) (x1 : Law) : Cl := (hres (C11 (eqLaw x0 x1)), k0 (ok_laws_eqLaw x0 x1))
end Go.Proofs.YtepefimocflfkabDoor
