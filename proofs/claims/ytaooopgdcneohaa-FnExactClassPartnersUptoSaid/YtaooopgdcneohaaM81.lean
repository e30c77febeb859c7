import Derived.Test.YtaooopgdcneohaaV81
set_option maxHeartbeats 4000000
set_option linter.unusedSimpArgs false
set_option linter.unusedVariables false
namespace Go.Proofs.Ytaooopgdcneohaa
open Go Go.Lite Go.Proofs
theorem classPartners_eq (x : Family) (c : Classes) (g : List Int) (p : Int) : implClassPartners x c g p = specClassPartners x c g p := by
  unfold implClassPartners specClassPartners
  rw [given_eq, has1_l1, Bool.or_comm]
theorem specClassPartners_len (x : Family) (c : Classes) (g : List Int) (p : Int) : (specClassPartners x c g p).length ≤ x.people.length := by
  unfold specClassPartners
  refine cond_both (p := fun (r : List Int) => r.length ≤ x.people.length) (fun _ => by simp) (fun _ => ?_)
  exact loopN_to (fun i (v : List Int) => v.length ≤ i) (fun (r : List Int) => r.length ≤ x.people.length) (by simp) (fun i v next hi hv hn => cond_both (p := fun (r : List Int) => r.length ≤ x.people.length) (fun _ => hn _ (by simp; omega)) (fun _ => hn _ (by omega))) (fun v hv => hv)
end Go.Proofs.Ytaooopgdcneohaa
