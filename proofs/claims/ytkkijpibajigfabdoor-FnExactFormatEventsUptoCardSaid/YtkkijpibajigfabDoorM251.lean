import Derived.Test.YtkkijpibajigfabDoorVE3
set_option maxHeartbeats 4000000
set_option linter.unusedSimpArgs false
set_option linter.unusedVariables false
namespace Go.Proofs.YtkkijpibajigfabDoor
open Go Go.Lite Go.Proofs
/-- Both programs write the same text. -/
theorem fmtEv_eq (x : List Event) : implFmtEv x = specFmtEv x := by
  unfold implFmtEv specFmtEv
  rw [build_eq]
  cases hb : (!(specBuild x).2) with
  | true => rfl
  | false =>
    simp only [cond_false]
    refine loopN_rel0 (fun _ (s t : List UInt8) => s = t) (fun a b => a = b) rfl (fun i s t n1 n2 hi e hn => ?_) (fun s t e => e)
    subst e
    have h := (ev_sz hb hi).1
    have en := number_eq h.year.1
    have nm : nameText = l1NameOf := rfl
    have hk := h.kind
    have hs := h.sex
    revert hk hs en
    generalize x.getD i default = e
    intro en hk hs
    have k4 : e.kind = 1 ∨ e.kind = 2 ∨ e.kind = 3 ∨ e.kind = 4 := by omega
    rcases k4 with k | k | k | k
    · have s2 : e.sex = 1 ∨ e.sex = 2 := by have := hs k; omega
      rcases s2 with s2 | s2
      · rw [k, s2]; exact hn _ _ (by simp [sexWord, en, nm])
      · rw [k, s2]; exact hn _ _ (by simp [sexWord, en, nm])
    all_goals rw [k]; exact hn _ _ (by simp [en, nm])
end Go.Proofs.YtkkijpibajigfabDoor
