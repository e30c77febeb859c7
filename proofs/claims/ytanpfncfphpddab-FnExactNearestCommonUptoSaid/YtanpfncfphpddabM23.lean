import Derived.Test.YtanpfncfphpddabV23
set_option maxHeartbeats 4000000
set_option linter.unusedSimpArgs false
set_option linter.unusedVariables false
namespace Go.Proofs.Ytanpfncfphpddab
open Go Go.Lite Go.Proofs
theorem nearest_eq (x : Family) (a b : Int) : implNearest x a b = specNearest x a b := by
  unfold implNearest specNearest
  rw [implCommon_eq]
  refine loopN_rel0 (fun i (v u : List Int) => v = u) Eq rfl (fun i v u n1 n2 hi hv hn => ?_) (fun v u hv => hv)
  subst hv
  refine loopN_rel0 (fun i (v u : Bool) => v = u) Eq rfl (fun j v u m1 m2 hj hv hm => ?_) (fun v u hv => ?_)
  · subst hv
    obtain ⟨⟨hf, _, _⟩, h1, h2, _⟩ := specCommon_get hj
    rw [isAncestor_eq hf ⟨h1, h2⟩]
    refine hm _ _ ?_
    congr 1
    by_cases c : 0 < (l8Up x ((specCommon x a b).getD j default)).getD ((specCommon x a b).getD i default).toNat default
    · rw [decide_eq_true c, decide_eq_false (by omega)]; rfl
    · rw [decide_eq_false c, decide_eq_true (by omega)]; rfl
  · subst hv
    cases v
    · exact hn _ _ rfl
    · exact hn _ _ rfl
theorem implNearest_len (x : Family) (a b : Int) : (implNearest x a b).length ≤ x.people.length := by rw [nearest_eq]; exact specNearest_len x a b
end Go.Proofs.Ytanpfncfphpddab
