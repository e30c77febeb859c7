import Derived.Test.YtanpfncfphpddaaM7
set_option maxHeartbeats 4000000
set_option linter.unusedSimpArgs false
set_option linter.unusedVariables false
namespace Go.Proofs.Ytanpfncfphpddaa
open Go Go.Lite Go.Proofs
def implStepsUp (x0 : Family) (x1 : Int) (x2 : Int) : Int × Bool := bif (!(implHas x0 [x1, x2])) then (0, false) else (Max.max ((stepsUp x0 x1).getD x2.toNat default) 0, decide (0 ≤ ((stepsUp x0 x1).getD x2.toNat default)))
theorem aux_impl_StepsUp (x0 : Family) (x1 : Int) (x2 : Int) (hx : x0.people.length ≤ 1048576) (hu : x0.unions.length ≤ 1048576) (hn : ∀ p ∈ x0.people, p.name.length ≤ 1048576) (R : Int × Bool) (hR : implStepsUp x0 x1 x2 = R) : Lite.Fn Try.prog 12 [.agg (cFamily false x0), .int .i64 x1, .int .i64 x2] (.tup [.int .i64 R.1, .bool R.2]) [] := by
  refine Lite.Fn.intro 25 Try.func12 (by kernel_rfl) (by kernel_rfl) (by kernel_rfl) fun w0 a w hs => ?_
  refine W.linK hs 1 [] [1, 2, 3, 6, 7] [3] (s2 := ⟨[(1, .int .i64 x1), (2, .int .i64 x2), (3, .vp 3 0), (6, .int .i64 0), (7, .bool false)], [(3, .var [.ro false 6 x0.people.length (rowOf (cPerson false) x0.people), .ro false 4 x0.unions.length (rowOf (cUnion false) x0.unions)])], [3]⟩) (vcs := []) (by kernel_rfl) trivial ?_
  clear hs; intro a w hs
  refine W.seq (by kernel_rfl) ?_
  refine W.linK hs 1 [(3, .row (rowOf (cInt .i64) [x1, x2])), (4, .res (.bool (implHas x0 [x1, x2])) [])] [1, 2, 3, 6, 7, 14] [3] (s2 := ⟨[(1, .int .i64 x1), (2, .int .i64 x2), (3, .vp 3 0), (6, .int .i64 0), (7, .bool false), (14, .bool (!(implHas x0 [x1, x2])))], [(3, .var [.ro false 6 x0.people.length (rowOf (cPerson false) x0.people), .ro false 4 x0.unions.length (rowOf (cUnion false) x0.unions)])], [12, 3]⟩) (vcs := [(rowOf (cInt .i64) [x1, x2]) 0 = [.int .i64 x1], (rowOf (cInt .i64) [x1, x2]) 1 = [.int .i64 x2], Lite.Fn Try.prog 31 [.agg [.ro false 6 x0.people.length (rowOf (cPerson false) x0.people), .ro false 4 x0.unions.length (rowOf (cUnion false) x0.unions)], .ro false 1 2 (rowOf (cInt .i64) [x1, x2])] (.bool (implHas x0 [x1, x2])) []]) (by kernel_rfl) ⟨rfl, rfl, ok_impl_has x0 [x1, x2] (by trivial) (by trivial) (by trivial) (by (clear hs hR; intros; (try simp only [decide_eq_true_eq, decide_eq_false_iff_not, Bool.or_eq_true, Bool.and_eq_true, or_f_iff, not_f_iff, not_t_iff, Bool.not_eq_true', inR, implHas2] at *); (repeat' apply And.intro) <;> (simp_all [inR, implHas2]; done))), trivial⟩ ?_
  clear hs; intro a w hs
  refine W.cond hs (by kernel_rfl) (b := !(implHas x0 [x1, x2])) (p := []) (by kernel_rfl) trivial (fun hc1 => ?_) (fun hc1 => ?_)
  ·
    replace hR := ct hR hc1
    refine W.linK hs 1 [] [1, 2, 3, 6, 7] [3] (s2 := ⟨[(1, .int .i64 x1), (2, .int .i64 x2), (3, .vp 3 0), (6, .int .i64 0), (7, .bool false)], [(3, .var [.ro false 6 x0.people.length (rowOf (cPerson false) x0.people), .ro false 4 x0.unions.length (rowOf (cUnion false) x0.unions)])], [12, 3]⟩) (vcs := []) (by kernel_rfl) trivial ?_
    clear hs; intro a w hs
    refine W.ret (by kernel_rfl) ?_
    subst hR
    exact ret_ok hs [] (vcs := [(0 : Int) = ((0, false).1), false = ((0, false).2), Frs (.tup [.int .i64 ((0, false).1), .bool ((0, false).2)])]) (by kernel_rfl) ⟨by first | rfl | omega | (simp; done), rfl, by simp [Frs, FrsL], trivial⟩
  ·
    replace hR := cf hR hc1
    refine W.skip (by kernel_rfl) ?_
    refine W.linK hs 2 [(2, .res (.own 0) [(1, (stepsUp x0 x1).length, (rowOf (cInt .i64) (stepsUp x0 x1)))])] [6, 7] [] (s2 := ⟨[(6, .int .i64 (Max.max ((stepsUp x0 x1).getD x2.toNat default) 0)), (7, .bool (decide (0 ≤ ((stepsUp x0 x1).getD x2.toNat default))))], [], [1017, 12, 3]⟩) (vcs := [Lite.Fn Try.prog 32 [.agg [.ro false 6 x0.people.length (rowOf (cPerson false) x0.people), .ro false 4 x0.unions.length (rowOf (cUnion false) x0.unions)], .int .i64 x1] (.own 0) [.arr 1 ((stepsUp x0 x1).length) (rowOf (cInt .i64) (stepsUp x0 x1))], 0 ≤ (x2 : Int) ∧ (x2 : Int) < (((stepsUp x0 x1).length : Nat) : Int)]) (by kernel_rfl) ⟨ok_impl_stepsUp x0 x1 (by trivial) (by (have h9 := (implHas2 x0 x1 x2).1 (by simpa using hc1); omega)) (by (exact isFamily_par _ (by simp_all [implHas2]))), by (have h9 := (implHas2 x0 x1 x2).1 (by simpa using hc1); have := stepsUp_len x0 x1 (isFamily_par _ h9.1) h9.2.1; omega), trivial⟩ ?_
    clear hs; intro a w hs
    refine W.ret (by kernel_rfl) ?_
    subst hR
    exact ret_ok hs [] (vcs := [(Max.max ((stepsUp x0 x1).getD x2.toNat default) 0 : Int) = ((Max.max ((stepsUp x0 x1).getD x2.toNat default) 0, decide (0 ≤ ((stepsUp x0 x1).getD x2.toNat default))).1), (decide (0 ≤ ((stepsUp x0 x1).getD x2.toNat default))) = ((Max.max ((stepsUp x0 x1).getD x2.toNat default) 0, decide (0 ≤ ((stepsUp x0 x1).getD x2.toNat default))).2), Frs (.tup [.int .i64 ((Max.max ((stepsUp x0 x1).getD x2.toNat default) 0, decide (0 ≤ ((stepsUp x0 x1).getD x2.toNat default))).1), .bool ((Max.max ((stepsUp x0 x1).getD x2.toNat default) 0, decide (0 ≤ ((stepsUp x0 x1).getD x2.toNat default))).2)])]) (by kernel_rfl) ⟨by first | rfl | omega | (simp; done), rfl, by simp [Frs, FrsL], trivial⟩
theorem ok_impl_StepsUp (x0 : Family) (x1 : Int) (x2 : Int) (hx : x0.people.length ≤ 1048576) (hu : x0.unions.length ≤ 1048576) (hn : ∀ p ∈ x0.people, p.name.length ≤ 1048576) : Lite.Fn Try.prog 12 [.agg (cFamily false x0), .int .i64 x1, .int .i64 x2] (.tup [.int .i64 ((implStepsUp x0 x1 x2).1), .bool ((implStepsUp x0 x1 x2).2)]) [] := aux_impl_StepsUp x0 x1 x2 hx hu hn _ rfl
end Go.Proofs.Ytanpfncfphpddaa
