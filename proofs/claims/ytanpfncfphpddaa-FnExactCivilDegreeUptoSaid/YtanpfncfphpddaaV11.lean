import Derived.Test.YtanpfncfphpddaaM10
set_option maxHeartbeats 4000000
set_option linter.unusedSimpArgs false
set_option linter.unusedVariables false
namespace Go.Proofs.Ytanpfncfphpddaa
open Go Go.Lite Go.Proofs
def implCivil (x0 : Family) (x1 : Int) (x2 : Int) : Int × Bool := (((implLinkOf x0 x1 x2).1) + ((implLinkOf x0 x1 x2).2.1), (implLinkOf x0 x1 x2).2.2)
theorem aux_impl_CivilDegree (x0 : Family) (x1 : Int) (x2 : Int) (hx : x0.people.length ≤ 1048576) (hu : x0.unions.length ≤ 1048576) (hn : ∀ p ∈ x0.people, p.name.length ≤ 1048576) (R : Int × Bool) (hR : implCivil x0 x1 x2 = R) : Lite.Fn Try.prog 24 [.agg (cFamily false x0), .int .i64 x1, .int .i64 x2] (.tup [.int .i64 R.1, .bool R.2]) [] := by
  refine Lite.Fn.intro 23 Try.func24 (by kernel_rfl) (by kernel_rfl) (by kernel_rfl) fun w0 a w hs => ?_
  refine W.linK hs 3 [(1003, .res (.tup [.int .i64 ((implLinkOf x0 x1 x2).1), .int .i64 ((implLinkOf x0 x1 x2).2.1), .bool ((implLinkOf x0 x1 x2).2.2)]) [])] [6, 7] [] (s2 := ⟨[(6, .int .i64 (((implLinkOf x0 x1 x2).1) + ((implLinkOf x0 x1 x2).2.1))), (7, .bool ((implLinkOf x0 x1 x2).2.2))], [], [3]⟩) (vcs := [Lite.Fn Try.prog 20 [.agg [.ro false 6 x0.people.length (rowOf (cPerson false) x0.people), .ro false 4 x0.unions.length (rowOf (cUnion false) x0.unions)], .int .i64 x1, .int .i64 x2] (.tup [.int .i64 ((implLinkOf x0 x1 x2).1), .int .i64 ((implLinkOf x0 x1 x2).2.1), .bool ((implLinkOf x0 x1 x2).2.2)]) [], inR .i64 (((implLinkOf x0 x1 x2).1) + ((implLinkOf x0 x1 x2).2.1))]) (by kernel_rfl) ⟨ok_impl_LinkOf x0 x1 x2 (by trivial) (by trivial) (by trivial), by (clear hs hR; intros; (try simp only [decide_eq_true_eq, decide_eq_false_iff_not, Bool.or_eq_true, Bool.and_eq_true, or_f_iff, not_f_iff, not_t_iff, Bool.not_eq_true', inR] at *); (repeat' apply And.intro) <;> (have := specLinkOf_bd x0 x1 x2; rw [linkOf_eq]; omega)), trivial⟩ ?_
  clear hs; intro a w hs
  refine W.ret (by kernel_rfl) ?_
  subst hR
  exact ret_ok hs [] (vcs := [(((implLinkOf x0 x1 x2).1) + ((implLinkOf x0 x1 x2).2.1) : Int) = ((((implLinkOf x0 x1 x2).1) + ((implLinkOf x0 x1 x2).2.1), (implLinkOf x0 x1 x2).2.2).1), ((implLinkOf x0 x1 x2).2.2) = ((((implLinkOf x0 x1 x2).1) + ((implLinkOf x0 x1 x2).2.1), (implLinkOf x0 x1 x2).2.2).2), Frs (.tup [.int .i64 ((((implLinkOf x0 x1 x2).1) + ((implLinkOf x0 x1 x2).2.1), (implLinkOf x0 x1 x2).2.2).1), .bool ((((implLinkOf x0 x1 x2).1) + ((implLinkOf x0 x1 x2).2.1), (implLinkOf x0 x1 x2).2.2).2)])]) (by kernel_rfl) ⟨by first | rfl | omega | (simp; done), rfl, by simp [Frs, FrsL], trivial⟩
theorem ok_impl_CivilDegree (x0 : Family) (x1 : Int) (x2 : Int) (hx : x0.people.length ≤ 1048576) (hu : x0.unions.length ≤ 1048576) (hn : ∀ p ∈ x0.people, p.name.length ≤ 1048576) : Lite.Fn Try.prog 24 [.agg (cFamily false x0), .int .i64 x1, .int .i64 x2] (.tup [.int .i64 ((implCivil x0 x1 x2).1), .bool ((implCivil x0 x1 x2).2)]) [] := aux_impl_CivilDegree x0 x1 x2 hx hu hn _ rfl
end Go.Proofs.Ytanpfncfphpddaa
