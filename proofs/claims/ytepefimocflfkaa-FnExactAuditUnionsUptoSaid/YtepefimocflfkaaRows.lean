/-
  No cell of these rows narrows 'for every input' (looked for: loops, veiled, ifaces, maps, wideKeys, modest, calm, conditions, laid).
  DERIVED. THE GIVEN ROWS OF THIS SEAT. 6 by the template 'for every input the law returns true; each argument reads behind the call as it read before'; 0 by the template 'total and deterministic' (their statements: YtepefimocflfkaaTotals.lean).
  GIVEN WITH THE SEED: the statements are not yours to turn. If you find one false, say at which input.
  Laid BY PROGRAM, IN A SANDBOX (cutbox-rows.mjs): the forced cells as the released guide's own fill.sh prints them over the translation d225ac6f196e163b… (all of the seat's roots in one cut). By AI agents, Wed Nov 11 2026. No macro, syntax, notation, axiom, sorry.
-/
import Derived.Test.YtepefimocflfkaaChecked
import GoSem.Claim
import GoSem.ClaimJoined
import GoSem.ClaimMapViews
import Derived.JoinedTies
import Derived.KernelRfl
namespace Go.Proofs.Ytepefimocflfkaa
/- THE CELL 'sum', in the pinned program and in every row, IS THE sha256 OF THE DUMP (.gsa) THAT YtepefimocflfkaaProg.lean LOADS. Nothing in Lean hashes anything: it is a label: what it is worth is what the hold of that sum in a sandbox is worth. -/
noncomputable def Try.pinned : Pinned := { name := "ytepefimocflfkaa", sum := "d225ac6f196e163bc927dfdbab6b084696d53e33d60e20bcf59e99b084812466", checked := Try.checked }
namespace Rows
def none {H : Type} : Left H := { results := [], args := [] }

/-- 'laws.FnSince': WHATEVER THE INPUT: true; the input reads as it did. -/
def fnSinceSpec : ChangeSpec := { name := "fnSince", fn := fun _ => fun
  | [d] => { results := [.lit (.bool true)], args := [d] }
  | _ => none }
def fnSinceRow : OpenClaim := { program := "ytepefimocflfkaa", sum := "d225ac6f196e163bc927dfdbab6b084696d53e33d60e20bcf59e99b084812466", func := "loop.example/g03221/laws.FnSince", spec := "fnSince", unfollowed := true, recurses := true, apart := false }
def FnSinceSaid : Prop := fnSinceRow.holds Try.pinned (OpenSpec.ofChange fnSinceSpec)

/-- ITS FALSE NEIGHBOUR: 'it returns false'. Refute it at one input. -/
def fnSinceWrong : ChangeSpec := { name := "fnSince", fn := fun _ => fun
  | [d] => { results := [.lit (.bool false)], args := [d] }
  | _ => none }
def FnSinceWrongFalsely : Prop := fnSinceRow.holds Try.pinned (OpenSpec.ofChange fnSinceWrong)

/-- 'laws.FnKnown': WHATEVER THE INPUT: true; the input reads as it did. -/
def fnKnownSpec : ChangeSpec := { name := "fnKnown", fn := fun _ => fun
  | [d] => { results := [.lit (.bool true)], args := [d] }
  | _ => none }
def fnKnownRow : OpenClaim := { program := "ytepefimocflfkaa", sum := "d225ac6f196e163bc927dfdbab6b084696d53e33d60e20bcf59e99b084812466", func := "loop.example/g03221/laws.FnKnown", spec := "fnKnown", inPlace := ["internal/reflectlite.ValueOf", "internal/reflectlite.Swapper", "(internal/reflectlite.Value).Len"], unfollowed := true, recurses := true, apart := false }
def FnKnownSaid : Prop := fnKnownRow.holds Try.pinned (OpenSpec.ofChange fnKnownSpec)

/-- ITS FALSE NEIGHBOUR: 'it returns false'. Refute it at one input. -/
def fnKnownWrong : ChangeSpec := { name := "fnKnown", fn := fun _ => fun
  | [d] => { results := [.lit (.bool false)], args := [d] }
  | _ => none }
def FnKnownWrongFalsely : Prop := fnKnownRow.holds Try.pinned (OpenSpec.ofChange fnKnownWrong)

/-- 'laws.FnExactChronological': WHATEVER THE INPUT: true; the input reads as it did. -/
def fnExactChronologicalSpec : ChangeSpec := { name := "fnExactChronological", fn := fun _ => fun
  | [d] => { results := [.lit (.bool true)], args := [d] }
  | _ => none }
def fnExactChronologicalRow : OpenClaim := { program := "ytepefimocflfkaa", sum := "d225ac6f196e163bc927dfdbab6b084696d53e33d60e20bcf59e99b084812466", func := "loop.example/g03221/laws.FnExactChronological", spec := "fnExactChronological", inPlace := ["internal/reflectlite.ValueOf", "internal/reflectlite.Swapper", "(internal/reflectlite.Value).Len"], unfollowed := true, recurses := true, apart := false }
def FnExactChronologicalSaid : Prop := fnExactChronologicalRow.holds Try.pinned (OpenSpec.ofChange fnExactChronologicalSpec)

/-- ITS FALSE NEIGHBOUR: 'it returns false'. Refute it at one input. -/
def fnExactChronologicalWrong : ChangeSpec := { name := "fnExactChronological", fn := fun _ => fun
  | [d] => { results := [.lit (.bool false)], args := [d] }
  | _ => none }
def FnExactChronologicalWrongFalsely : Prop := fnExactChronologicalRow.holds Try.pinned (OpenSpec.ofChange fnExactChronologicalWrong)

/-- 'laws.FnExactEventsOf': WHATEVER THE INPUT: true; the input reads as it did. -/
def fnExactEventsOfSpec : ChangeSpec := { name := "fnExactEventsOf", fn := fun _ => fun
  | [d] => { results := [.lit (.bool true)], args := [d] }
  | _ => none }
def fnExactEventsOfRow : OpenClaim := { program := "ytepefimocflfkaa", sum := "d225ac6f196e163bc927dfdbab6b084696d53e33d60e20bcf59e99b084812466", func := "loop.example/g03221/laws.FnExactEventsOf", spec := "fnExactEventsOf", inPlace := ["internal/reflectlite.ValueOf", "internal/reflectlite.Swapper", "(internal/reflectlite.Value).Len"], unfollowed := true, recurses := true, apart := false }
def FnExactEventsOfSaid : Prop := fnExactEventsOfRow.holds Try.pinned (OpenSpec.ofChange fnExactEventsOfSpec)

/-- ITS FALSE NEIGHBOUR: 'it returns false'. Refute it at one input. -/
def fnExactEventsOfWrong : ChangeSpec := { name := "fnExactEventsOf", fn := fun _ => fun
  | [d] => { results := [.lit (.bool false)], args := [d] }
  | _ => none }
def FnExactEventsOfWrongFalsely : Prop := fnExactEventsOfRow.holds Try.pinned (OpenSpec.ofChange fnExactEventsOfWrong)

/-- 'laws.FnExactAuditUnions': WHATEVER THE INPUT: true; the input reads as it did. -/
def fnExactAuditUnionsSpec : ChangeSpec := { name := "fnExactAuditUnions", fn := fun _ => fun
  | [d1, d2] => { results := [.lit (.bool true)], args := [d1, d2] }
  | _ => none }
def fnExactAuditUnionsRow : OpenClaim := { program := "ytepefimocflfkaa", sum := "d225ac6f196e163bc927dfdbab6b084696d53e33d60e20bcf59e99b084812466", func := "loop.example/g03221/laws.FnExactAuditUnions", spec := "fnExactAuditUnions", unfollowed := true, recurses := true, apart := false }
def FnExactAuditUnionsSaid : Prop := fnExactAuditUnionsRow.holds Try.pinned (OpenSpec.ofChange fnExactAuditUnionsSpec)

/-- ITS FALSE NEIGHBOUR: 'it returns false'. Refute it at one input. -/
def fnExactAuditUnionsWrong : ChangeSpec := { name := "fnExactAuditUnions", fn := fun _ => fun
  | [d1, d2] => { results := [.lit (.bool false)], args := [d1, d2] }
  | _ => none }
def FnExactAuditUnionsWrongFalsely : Prop := fnExactAuditUnionsRow.holds Try.pinned (OpenSpec.ofChange fnExactAuditUnionsWrong)

/-- 'laws.FnExactIsRegister': WHATEVER THE INPUT: true; the input reads as it did. -/
def fnExactIsRegisterSpec : ChangeSpec := { name := "fnExactIsRegister", fn := fun _ => fun
  | [d] => { results := [.lit (.bool true)], args := [d] }
  | _ => none }
def fnExactIsRegisterRow : OpenClaim := { program := "ytepefimocflfkaa", sum := "d225ac6f196e163bc927dfdbab6b084696d53e33d60e20bcf59e99b084812466", func := "loop.example/g03221/laws.FnExactIsRegister", spec := "fnExactIsRegister", unfollowed := true, recurses := true, apart := false }
def FnExactIsRegisterSaid : Prop := fnExactIsRegisterRow.holds Try.pinned (OpenSpec.ofChange fnExactIsRegisterSpec)

/-- ITS FALSE NEIGHBOUR: 'it returns false'. Refute it at one input. -/
def fnExactIsRegisterWrong : ChangeSpec := { name := "fnExactIsRegister", fn := fun _ => fun
  | [d] => { results := [.lit (.bool false)], args := [d] }
  | _ => none }
def FnExactIsRegisterWrongFalsely : Prop := fnExactIsRegisterRow.holds Try.pinned (OpenSpec.ofChange fnExactIsRegisterWrong)

/- THE SECOND FORM. 'bulk': how many values and letters a reading holds, each counted each time it is reached (what is shared counts as often as it is met; a slice's spare places count too). A statement '..UptoSaid' is the law's where the arguments, and the package variables that the reading takes, are together of bulk at most 1048576: NARROWER than '..Said'. Prove '..Said' where nothing that the law and all that it calls make is longer than what came in: it says more and counts as full. Else prove '..UptoSaid'. A law counts once. -/
mutual
def uptoBulk {H : Type} : DataW H → Nat
  | .lit (.string bytes) => bytes.length + 1
  | .lit _ => 1
  | .nil => 1
  | .ptr d => uptoBulk d + 1
  | .slice elems spare => uptoBulkAll elems + uptoBulkAll spare + 1
  | .agg parts => uptoBulkAll parts + 1
  | .iface _ d => uptoBulk d + 1
  | .map entries => uptoBulkEntries entries + 1
  | .held _ => 1
def uptoBulkAll {H : Type} : List (DataW H) → Nat
  | [] => 0
  | d :: r => uptoBulk d + uptoBulkAll r
def uptoBulkEntries {H : Type} : List (Lit × DataW H) → Nat
  | [] => 0
  | x :: r => uptoBulkEntry x + uptoBulkEntries r
def uptoBulkEntry {H : Type} : Lit × DataW H → Nat
  | (.string bytes, d) => bytes.length + uptoBulk d + 1
  | (_, d) => uptoBulk d + 1
 end
def uptoSmall : (H : Type) → List (DataW H) → Bool := fun _ ds => decide (uptoBulkAll ds ≤ 1048576)
def OpenSpec.upto (s : _root_.Go.ChangeSpec) : _root_.Go.OpenSpec := { _root_.Go.OpenSpec.ofChange s with cond := some uptoSmall }

/-- 'laws.FnSince', WHERE WHAT IT READS IS OF BULK AT MOST 1048576: true; the input reads as it did. -/
def fnSinceUptoRow : OpenClaim := { program := "ytepefimocflfkaa", sum := "d225ac6f196e163bc927dfdbab6b084696d53e33d60e20bcf59e99b084812466", func := "loop.example/g03221/laws.FnSince", spec := "fnSince", unfollowed := true, recurses := true, apart := false, narrowed := true }
def FnSinceUptoSaid : Prop := fnSinceUptoRow.holds Try.pinned (OpenSpec.upto fnSinceSpec)

/-- 'laws.FnKnown', WHERE WHAT IT READS IS OF BULK AT MOST 1048576: true; the input reads as it did. -/
def fnKnownUptoRow : OpenClaim := { program := "ytepefimocflfkaa", sum := "d225ac6f196e163bc927dfdbab6b084696d53e33d60e20bcf59e99b084812466", func := "loop.example/g03221/laws.FnKnown", spec := "fnKnown", inPlace := ["internal/reflectlite.ValueOf", "internal/reflectlite.Swapper", "(internal/reflectlite.Value).Len"], unfollowed := true, recurses := true, apart := false, narrowed := true }
def FnKnownUptoSaid : Prop := fnKnownUptoRow.holds Try.pinned (OpenSpec.upto fnKnownSpec)

/-- 'laws.FnExactChronological', WHERE WHAT IT READS IS OF BULK AT MOST 1048576: true; the input reads as it did. -/
def fnExactChronologicalUptoRow : OpenClaim := { program := "ytepefimocflfkaa", sum := "d225ac6f196e163bc927dfdbab6b084696d53e33d60e20bcf59e99b084812466", func := "loop.example/g03221/laws.FnExactChronological", spec := "fnExactChronological", inPlace := ["internal/reflectlite.ValueOf", "internal/reflectlite.Swapper", "(internal/reflectlite.Value).Len"], unfollowed := true, recurses := true, apart := false, narrowed := true }
def FnExactChronologicalUptoSaid : Prop := fnExactChronologicalUptoRow.holds Try.pinned (OpenSpec.upto fnExactChronologicalSpec)

/-- 'laws.FnExactEventsOf', WHERE WHAT IT READS IS OF BULK AT MOST 1048576: true; the input reads as it did. -/
def fnExactEventsOfUptoRow : OpenClaim := { program := "ytepefimocflfkaa", sum := "d225ac6f196e163bc927dfdbab6b084696d53e33d60e20bcf59e99b084812466", func := "loop.example/g03221/laws.FnExactEventsOf", spec := "fnExactEventsOf", inPlace := ["internal/reflectlite.ValueOf", "internal/reflectlite.Swapper", "(internal/reflectlite.Value).Len"], unfollowed := true, recurses := true, apart := false, narrowed := true }
def FnExactEventsOfUptoSaid : Prop := fnExactEventsOfUptoRow.holds Try.pinned (OpenSpec.upto fnExactEventsOfSpec)

/-- 'laws.FnExactAuditUnions', WHERE WHAT IT READS IS OF BULK AT MOST 1048576: true; the input reads as it did. -/
def fnExactAuditUnionsUptoRow : OpenClaim := { program := "ytepefimocflfkaa", sum := "d225ac6f196e163bc927dfdbab6b084696d53e33d60e20bcf59e99b084812466", func := "loop.example/g03221/laws.FnExactAuditUnions", spec := "fnExactAuditUnions", unfollowed := true, recurses := true, apart := false, narrowed := true }
def FnExactAuditUnionsUptoSaid : Prop := fnExactAuditUnionsUptoRow.holds Try.pinned (OpenSpec.upto fnExactAuditUnionsSpec)

/-- 'laws.FnExactIsRegister', WHERE WHAT IT READS IS OF BULK AT MOST 1048576: true; the input reads as it did. -/
def fnExactIsRegisterUptoRow : OpenClaim := { program := "ytepefimocflfkaa", sum := "d225ac6f196e163bc927dfdbab6b084696d53e33d60e20bcf59e99b084812466", func := "loop.example/g03221/laws.FnExactIsRegister", spec := "fnExactIsRegister", unfollowed := true, recurses := true, apart := false, narrowed := true }
def FnExactIsRegisterUptoSaid : Prop := fnExactIsRegisterUptoRow.holds Try.pinned (OpenSpec.upto fnExactIsRegisterSpec)

end Rows
end Go.Proofs.Ytepefimocflfkaa
