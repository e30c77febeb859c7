import Derived.Test.YtanpfncfphpddabV10
set_option maxHeartbeats 4000000
set_option linter.unusedSimpArgs false
set_option linter.unusedVariables false
namespace Go.Proofs.Ytanpfncfphpddab
open Go Go.Lite Go.Proofs
theorem linkOf_core (x : Family) (a b : Int) (hf : specIsFamily x = true) (ha : 0 ≤ a ∧ a < x.people.length) (hb : 0 ≤ b ∧ b < x.people.length) : linkOf x a b = specLinkOf x a b := by
  have hp := isFamily_par x hf
  unfold linkOf specLinkOf
  rw [specCommon_of hf ha hb, commonAncestors_eq x a b hp ha hb, stepsUp_eq x a hp ha, stepsUp_eq x b hp hb]
  refine loopN_rel0 (fun i (v : Int × Int × Bool) (u : Int × Int) => (v.2.2 = false → v = (0, 0, false) ∧ u = (-1, -1)) ∧ (v.2.2 = true → v.1 = u.1 ∧ v.2.1 = u.2 ∧ 0 ≤ u.1 ∧ 0 ≤ u.2)) Eq ⟨fun _ => ⟨rfl, rfl⟩, fun h => by cases h⟩ (fun i v u n1 n2 hi hv hn => ?_) (fun v u hv => ?_)
  · obtain ⟨g1, g2, g3, g4⟩ := (l8Common_mem x a b).2 _ (getD_mem (d := default) hi)
    generalize (l8Common x a b).getD i default = q at g1 g2 g3 g4 ⊢
    generalize (l8Up x a).getD q.toNat default = n at g3 ⊢
    generalize (l8Up x b).getD q.toNat default = m at g4 ⊢
    obtain ⟨v1, v2, v3⟩ := v
    obtain ⟨u1, u2⟩ := u
    cases v3
    · obtain ⟨h1, h2⟩ := hv.1 rfl
      cases h2
      simp only [Bool.not_false, cond_true]
      have : decide ((-1 : Int) < 0) = true := rfl
      simp only [this, Bool.true_or, cond_true]
      exact hn _ _ ⟨fun h => by simp at h, fun _ => ⟨rfl, rfl, g3, g4⟩⟩
    · obtain ⟨h1, h2, h3, h4⟩ := hv.2 rfl
      simp only at h1 h2 h3 h4 ⊢
      subst h1; subst h2
      simp only [Bool.not_true, cond_false]
      have keep : n1 (v1, v2, true) = n2 (v1, v2) := hn _ _ ⟨fun h => by simp at h, fun _ => ⟨rfl, rfl, h3, h4⟩⟩
      have take : n1 (n, m, true) = n2 (n, m) := hn _ _ ⟨fun h => by simp at h, fun _ => ⟨rfl, rfl, g3, g4⟩⟩
      have hneg : decide (v1 < 0) = false := decide_eq_false (by omega)
      simp only [hneg, Bool.false_or]
      by_cases c1 : n + m = v1 + v2
      · by_cases c2 : max n m = max v1 v2
        · by_cases c3 : v1 ≤ n
          · simp only [c1, c2, c3, decide_true, Bool.not_true, cond_false, cond_true, Int.lt_irrefl, decide_false, Bool.false_or, Bool.true_and, show ¬ n < v1 by omega]; exact keep
          · simp only [c1, c2, c3, decide_true, Bool.not_true, cond_false, cond_true, Int.lt_irrefl, decide_false, Bool.false_or, Bool.true_and, show n < v1 by omega]; exact take
        · by_cases c3 : max v1 v2 < max n m
          · simp only [c1, c2, c3, decide_true, decide_false, Bool.not_true, Bool.not_false, cond_false, cond_true, Int.lt_irrefl, Bool.false_or, Bool.true_and, Bool.false_and, Bool.or_false, show ¬ max n m < max v1 v2 by omega]; exact keep
          · simp only [c1, c2, c3, decide_true, decide_false, Bool.not_true, Bool.not_false, cond_false, cond_true, Int.lt_irrefl, Bool.false_or, Bool.true_and, Bool.false_and, Bool.or_false, show max n m < max v1 v2 by omega]; exact take
      · by_cases c3 : v1 + v2 < n + m
        · simp only [c1, c3, decide_true, decide_false, Bool.not_false, cond_true, show ¬ n + m < v1 + v2 by omega, Bool.false_or, Bool.false_and, cond_false]; exact keep
        · simp only [c1, c3, decide_true, decide_false, Bool.not_false, cond_true, show n + m < v1 + v2 by omega, Bool.true_or, cond_false]; exact take
  · obtain ⟨v1, v2, v3⟩ := v
    obtain ⟨u1, u2⟩ := u
    cases v3
    · obtain ⟨h1, h2⟩ := hv.1 rfl
      cases h2; cases h1
      rfl
    · obtain ⟨h1, h2, h3, h4⟩ := hv.2 rfl
      simp only at h1 h2 h3 h4 ⊢
      subst h1; subst h2
      simp only [show ¬ v1 < 0 by omega, decide_false, cond_false]
theorem linkOf_eq (x : Family) (a b : Int) : implLinkOf x a b = specLinkOf x a b := by
  unfold implLinkOf
  cases h : implHas x [a, b]
  · simp only [Bool.not_false, cond_true]
    unfold specLinkOf
    rw [specCommon_no fun hh => by rw [(implHas2 x a b).2 hh] at h; cases h]
    rfl
  · obtain ⟨h1, h2, h3⟩ := (implHas2 x a b).1 h
    simp only [Bool.not_true, cond_false]
    rw [linkOf_core x a b h1 h2 h3]
def C31 (R : Int × Bool) : LV × List (Nat × BC) := (.tup [.int .i64 R.1, .bool R.2], [])
def implCivil (x0 : Family) (x1 : Int) (x2 : Int) : Int × Bool := (((implLinkOf x0 x1 x2).1) + ((implLinkOf x0 x1 x2).2.1), (implLinkOf x0 x1 x2).2.2)
def A31 (x0 : Family) (x1 : Int) (x2 : Int) : Ann := .reg 3 [] [(1003, k61 x0 x1 x2)] [6, 7] [] [] [pf (inR .i64 (((implLinkOf x0 x1 x2).1) + ((implLinkOf x0 x1 x2).2.1)))] [] [4, 0] (rt [] (C31 (((implLinkOf x0 x1 x2).1) + ((implLinkOf x0 x1 x2).2.1), (implLinkOf x0 x1 x2).2.2)))
theorem ok_impl_CivilDegree (x0 : Family) (x1 : Int) (x2 : Int) (hx : x0.people.length ≤ 1048576) (hu : x0.unions.length ≤ 1048576) (hn : ∀ p ∈ x0.people, p.name.length ≤ 1048576) : FnT Try.prog 31 [.agg (cFamily false x0), .int .i64 x1, .int .i64 x2] (C31 (implCivil x0 x1 x2)) := by
  have aux : ∀ R, implCivil x0 x1 x2 = R → slim (C31 R) (A31 x0 x1 x2) [] := by
    intro R hR
    refine rg ⟨by ((try clear hR); intros; (try simp only [decide_eq_true_eq, decide_eq_false_iff_not, Bool.or_eq_true, Bool.and_eq_true, or_f_iff, not_f_iff, not_t_iff, Bool.not_eq_true', inR] at *); (repeat' apply And.intro) <;> (have := specLinkOf_bd x0 x1 x2; rw [linkOf_eq]; omega)), ⟨by trivial, by trivial, by trivial⟩, trivial⟩ ?_
    exact congrArg C31 hR
  exact Fn.go 23 Try.func31 (by kernel_rfl) (by kernel_rfl) (by simp [C31, Frs, FrsL]) (A31 x0 x1 x2) (by kernel_rfl) (aux _ rfl)
def k31 (x0 : Family) (x1 : Int) (x2 : Int) : Cl := (hres (C31 (implCivil x0 x1 x2)), k3 (ok_impl_CivilDegree x0 x1 x2))
end Go.Proofs.Ytanpfncfphpddab
