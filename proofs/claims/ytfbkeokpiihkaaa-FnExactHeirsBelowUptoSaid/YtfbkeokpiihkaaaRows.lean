/-
  No cell of these rows narrows 'for every input' (looked for: loops, veiled, ifaces, maps, wideKeys, modest, calm, conditions, laid).
  DERIVED. THE GIVEN ROWS OF THIS SEAT. 6 by the template 'for every input the law returns true; each argument reads behind the call as it read before'; 0 by the template 'total and deterministic' (their statements: YtfbkeokpiihkaaaTotals.lean).
  GIVEN WITH THE SEED: the statements are not yours to turn. If you find one false, say at which input.
  Laid BY PROGRAM, IN A SANDBOX (cutbox-rows.mjs): the forced cells as the released guide's own fill.sh prints them over the translation 843912edcf30acb1… (all of the seat's roots in one cut). By AI agents, Wed Nov 11 2026. No macro, syntax, notation, axiom, sorry.
-/
import Derived.Test.YtfbkeokpiihkaaaChecked
import GoSem.Claim
import GoSem.ClaimJoined
import GoSem.ClaimMapViews
import Derived.JoinedTies
import Derived.KernelRfl
namespace Go.Proofs.Ytfbkeokpiihkaaa
/- THE CELL 'sum', in the pinned program and in every row, IS THE sha256 OF THE DUMP (.gsa) THAT YtfbkeokpiihkaaaProg.lean LOADS. Nothing in Lean hashes anything: it is a label: what it is worth is what the hold of that sum in a sandbox is worth. -/
noncomputable def Try.pinned : Pinned := { name := "ytfbkeokpiihkaaa", sum := "843912edcf30acb1fb6fcce57dc17221ec36bd4832ad707db074274363e06cee", checked := Try.checked }
namespace Rows
def none {H : Type} : Left H := { results := [], args := [] }

/-- 'laws.FnExactDescentLines': WHATEVER THE INPUT: true; the input reads as it did. -/
def fnExactDescentLinesSpec : ChangeSpec := { name := "fnExactDescentLines", fn := fun _ => fun
  | [d1, d2, d3] => { results := [.lit (.bool true)], args := [d1, d2, d3] }
  | _ => none }
def fnExactDescentLinesRow : OpenClaim := { program := "ytfbkeokpiihkaaa", sum := "843912edcf30acb1fb6fcce57dc17221ec36bd4832ad707db074274363e06cee", func := "loop.example/g03221/laws.FnExactDescentLines", spec := "fnExactDescentLines", inPlace := ["internal/reflectlite.ValueOf", "internal/reflectlite.Swapper", "(internal/reflectlite.Value).Len"], unfollowed := true, recurses := true, plainKeys := false, apart := false }
def FnExactDescentLinesSaid : Prop := fnExactDescentLinesRow.holds Try.pinned (OpenSpec.ofChange fnExactDescentLinesSpec)

/-- ITS FALSE NEIGHBOUR: 'it returns false'. Refute it at one input. -/
def fnExactDescentLinesWrong : ChangeSpec := { name := "fnExactDescentLines", fn := fun _ => fun
  | [d1, d2, d3] => { results := [.lit (.bool false)], args := [d1, d2, d3] }
  | _ => none }
def FnExactDescentLinesWrongFalsely : Prop := fnExactDescentLinesRow.holds Try.pinned (OpenSpec.ofChange fnExactDescentLinesWrong)

/-- 'laws.FnExactHeirOf': WHATEVER THE INPUT: true; the input reads as it did. -/
def fnExactHeirOfSpec : ChangeSpec := { name := "fnExactHeirOf", fn := fun _ => fun
  | [d1, d2, d3, d4] => { results := [.lit (.bool true)], args := [d1, d2, d3, d4] }
  | _ => none }
def fnExactHeirOfRow : OpenClaim := { program := "ytfbkeokpiihkaaa", sum := "843912edcf30acb1fb6fcce57dc17221ec36bd4832ad707db074274363e06cee", func := "loop.example/g03221/laws.FnExactHeirOf", spec := "fnExactHeirOf", inPlace := ["internal/reflectlite.ValueOf", "internal/reflectlite.Swapper", "(internal/reflectlite.Value).Len"], unfollowed := true, recurses := true, plainKeys := false, apart := false }
def FnExactHeirOfSaid : Prop := fnExactHeirOfRow.holds Try.pinned (OpenSpec.ofChange fnExactHeirOfSpec)

/-- ITS FALSE NEIGHBOUR: 'it returns false'. Refute it at one input. -/
def fnExactHeirOfWrong : ChangeSpec := { name := "fnExactHeirOf", fn := fun _ => fun
  | [d1, d2, d3, d4] => { results := [.lit (.bool false)], args := [d1, d2, d3, d4] }
  | _ => none }
def FnExactHeirOfWrongFalsely : Prop := fnExactHeirOfRow.holds Try.pinned (OpenSpec.ofChange fnExactHeirOfWrong)

/-- 'laws.FnExactHeirsBelow': WHATEVER THE INPUT: true; the input reads as it did. -/
def fnExactHeirsBelowSpec : ChangeSpec := { name := "fnExactHeirsBelow", fn := fun _ => fun
  | [d1, d2, d3, d4] => { results := [.lit (.bool true)], args := [d1, d2, d3, d4] }
  | _ => none }
def fnExactHeirsBelowRow : OpenClaim := { program := "ytfbkeokpiihkaaa", sum := "843912edcf30acb1fb6fcce57dc17221ec36bd4832ad707db074274363e06cee", func := "loop.example/g03221/laws.FnExactHeirsBelow", spec := "fnExactHeirsBelow", inPlace := ["internal/reflectlite.ValueOf", "internal/reflectlite.Swapper", "(internal/reflectlite.Value).Len"], unfollowed := true, recurses := true, plainKeys := false, apart := false }
def FnExactHeirsBelowSaid : Prop := fnExactHeirsBelowRow.holds Try.pinned (OpenSpec.ofChange fnExactHeirsBelowSpec)

/-- ITS FALSE NEIGHBOUR: 'it returns false'. Refute it at one input. -/
def fnExactHeirsBelowWrong : ChangeSpec := { name := "fnExactHeirsBelow", fn := fun _ => fun
  | [d1, d2, d3, d4] => { results := [.lit (.bool false)], args := [d1, d2, d3, d4] }
  | _ => none }
def FnExactHeirsBelowWrongFalsely : Prop := fnExactHeirsBelowRow.holds Try.pinned (OpenSpec.ofChange fnExactHeirsBelowWrong)

/-- 'laws.FnExactSuccessionOrder': WHATEVER THE INPUT: true; the input reads as it did. -/
def fnExactSuccessionOrderSpec : ChangeSpec := { name := "fnExactSuccessionOrder", fn := fun _ => fun
  | [d1, d2, d3, d4] => { results := [.lit (.bool true)], args := [d1, d2, d3, d4] }
  | _ => none }
def fnExactSuccessionOrderRow : OpenClaim := { program := "ytfbkeokpiihkaaa", sum := "843912edcf30acb1fb6fcce57dc17221ec36bd4832ad707db074274363e06cee", func := "loop.example/g03221/laws.FnExactSuccessionOrder", spec := "fnExactSuccessionOrder", inPlace := ["internal/reflectlite.ValueOf", "internal/reflectlite.Swapper", "(internal/reflectlite.Value).Len"], unfollowed := true, recurses := true, plainKeys := false, apart := false }
def FnExactSuccessionOrderSaid : Prop := fnExactSuccessionOrderRow.holds Try.pinned (OpenSpec.ofChange fnExactSuccessionOrderSpec)

/-- ITS FALSE NEIGHBOUR: 'it returns false'. Refute it at one input. -/
def fnExactSuccessionOrderWrong : ChangeSpec := { name := "fnExactSuccessionOrder", fn := fun _ => fun
  | [d1, d2, d3, d4] => { results := [.lit (.bool false)], args := [d1, d2, d3, d4] }
  | _ => none }
def FnExactSuccessionOrderWrongFalsely : Prop := fnExactSuccessionOrderRow.holds Try.pinned (OpenSpec.ofChange fnExactSuccessionOrderWrong)

/-- 'laws.FnExactKinshipByLines': WHATEVER THE INPUT: true; the input reads as it did. -/
def fnExactKinshipByLinesSpec : ChangeSpec := { name := "fnExactKinshipByLines", fn := fun _ => fun
  | [d1, d2, d3] => { results := [.lit (.bool true)], args := [d1, d2, d3] }
  | _ => none }
def fnExactKinshipByLinesRow : OpenClaim := { program := "ytfbkeokpiihkaaa", sum := "843912edcf30acb1fb6fcce57dc17221ec36bd4832ad707db074274363e06cee", func := "loop.example/g03221/laws.FnExactKinshipByLines", spec := "fnExactKinshipByLines", inPlace := ["internal/reflectlite.ValueOf", "internal/reflectlite.Swapper", "(internal/reflectlite.Value).Len"], unfollowed := true, recurses := true, plainKeys := false, apart := false }
def FnExactKinshipByLinesSaid : Prop := fnExactKinshipByLinesRow.holds Try.pinned (OpenSpec.ofChange fnExactKinshipByLinesSpec)

/-- ITS FALSE NEIGHBOUR: 'it returns false'. Refute it at one input. -/
def fnExactKinshipByLinesWrong : ChangeSpec := { name := "fnExactKinshipByLines", fn := fun _ => fun
  | [d1, d2, d3] => { results := [.lit (.bool false)], args := [d1, d2, d3] }
  | _ => none }
def FnExactKinshipByLinesWrongFalsely : Prop := fnExactKinshipByLinesRow.holds Try.pinned (OpenSpec.ofChange fnExactKinshipByLinesWrong)

/-- 'laws.FnExactHoldersOf': WHATEVER THE INPUT: true; the input reads as it did. -/
def fnExactHoldersOfSpec : ChangeSpec := { name := "fnExactHoldersOf", fn := fun _ => fun
  | [d1, d2, d3] => { results := [.lit (.bool true)], args := [d1, d2, d3] }
  | _ => none }
def fnExactHoldersOfRow : OpenClaim := { program := "ytfbkeokpiihkaaa", sum := "843912edcf30acb1fb6fcce57dc17221ec36bd4832ad707db074274363e06cee", func := "loop.example/g03221/laws.FnExactHoldersOf", spec := "fnExactHoldersOf", inPlace := ["internal/reflectlite.ValueOf", "internal/reflectlite.Swapper", "(internal/reflectlite.Value).Len"], unfollowed := true, recurses := true, plainKeys := false, apart := false }
def FnExactHoldersOfSaid : Prop := fnExactHoldersOfRow.holds Try.pinned (OpenSpec.ofChange fnExactHoldersOfSpec)

/-- ITS FALSE NEIGHBOUR: 'it returns false'. Refute it at one input. -/
def fnExactHoldersOfWrong : ChangeSpec := { name := "fnExactHoldersOf", fn := fun _ => fun
  | [d1, d2, d3] => { results := [.lit (.bool false)], args := [d1, d2, d3] }
  | _ => none }
def FnExactHoldersOfWrongFalsely : Prop := fnExactHoldersOfRow.holds Try.pinned (OpenSpec.ofChange fnExactHoldersOfWrong)

/- THE SECOND FORM. 'bulk': how many values and letters a reading holds, each counted each time it is reached (what is shared counts as often as it is met; a slice's spare places count too). A statement '..UptoSaid' is the law's where the arguments, and the package variables that the reading takes, are together of bulk at most 1048576: NARROWER than '..Said'. Prove '..Said' where nothing that the law and all that it calls make is longer than what came in: it says more and counts as full. Else prove '..UptoSaid'. A law counts once. -/
mutual
def uptoBulk {H : Type} : DataW H → Nat
  | .lit (.string bytes) => bytes.length + 1
  | .lit _ => 1
  | .nil => 1
  | .ptr d => uptoBulk d + 1
  | .slice elems spare => uptoBulkAll elems + uptoBulkAll spare + 1
  | .agg parts => uptoBulkAll parts + 1
  | .iface _ d => uptoBulk d + 1
  | .map entries => uptoBulkEntries entries + 1
  | .held _ => 1
def uptoBulkAll {H : Type} : List (DataW H) → Nat
  | [] => 0
  | d :: r => uptoBulk d + uptoBulkAll r
def uptoBulkEntries {H : Type} : List (Lit × DataW H) → Nat
  | [] => 0
  | x :: r => uptoBulkEntry x + uptoBulkEntries r
def uptoBulkEntry {H : Type} : Lit × DataW H → Nat
  | (.string bytes, d) => bytes.length + uptoBulk d + 1
  | (_, d) => uptoBulk d + 1
 end
def uptoSmall : (H : Type) → List (DataW H) → Bool := fun _ ds => decide (uptoBulkAll ds ≤ 1048576)
def OpenSpec.upto (s : _root_.Go.ChangeSpec) : _root_.Go.OpenSpec := { _root_.Go.OpenSpec.ofChange s with cond := some uptoSmall }

/-- 'laws.FnExactDescentLines', WHERE WHAT IT READS IS OF BULK AT MOST 1048576: true; the input reads as it did. -/
def fnExactDescentLinesUptoRow : OpenClaim := { program := "ytfbkeokpiihkaaa", sum := "843912edcf30acb1fb6fcce57dc17221ec36bd4832ad707db074274363e06cee", func := "loop.example/g03221/laws.FnExactDescentLines", spec := "fnExactDescentLines", inPlace := ["internal/reflectlite.ValueOf", "internal/reflectlite.Swapper", "(internal/reflectlite.Value).Len"], unfollowed := true, recurses := true, plainKeys := false, apart := false, narrowed := true }
def FnExactDescentLinesUptoSaid : Prop := fnExactDescentLinesUptoRow.holds Try.pinned (OpenSpec.upto fnExactDescentLinesSpec)

/-- 'laws.FnExactHeirOf', WHERE WHAT IT READS IS OF BULK AT MOST 1048576: true; the input reads as it did. -/
def fnExactHeirOfUptoRow : OpenClaim := { program := "ytfbkeokpiihkaaa", sum := "843912edcf30acb1fb6fcce57dc17221ec36bd4832ad707db074274363e06cee", func := "loop.example/g03221/laws.FnExactHeirOf", spec := "fnExactHeirOf", inPlace := ["internal/reflectlite.ValueOf", "internal/reflectlite.Swapper", "(internal/reflectlite.Value).Len"], unfollowed := true, recurses := true, plainKeys := false, apart := false, narrowed := true }
def FnExactHeirOfUptoSaid : Prop := fnExactHeirOfUptoRow.holds Try.pinned (OpenSpec.upto fnExactHeirOfSpec)

/-- 'laws.FnExactHeirsBelow', WHERE WHAT IT READS IS OF BULK AT MOST 1048576: true; the input reads as it did. -/
def fnExactHeirsBelowUptoRow : OpenClaim := { program := "ytfbkeokpiihkaaa", sum := "843912edcf30acb1fb6fcce57dc17221ec36bd4832ad707db074274363e06cee", func := "loop.example/g03221/laws.FnExactHeirsBelow", spec := "fnExactHeirsBelow", inPlace := ["internal/reflectlite.ValueOf", "internal/reflectlite.Swapper", "(internal/reflectlite.Value).Len"], unfollowed := true, recurses := true, plainKeys := false, apart := false, narrowed := true }
def FnExactHeirsBelowUptoSaid : Prop := fnExactHeirsBelowUptoRow.holds Try.pinned (OpenSpec.upto fnExactHeirsBelowSpec)

/-- 'laws.FnExactSuccessionOrder', WHERE WHAT IT READS IS OF BULK AT MOST 1048576: true; the input reads as it did. -/
def fnExactSuccessionOrderUptoRow : OpenClaim := { program := "ytfbkeokpiihkaaa", sum := "843912edcf30acb1fb6fcce57dc17221ec36bd4832ad707db074274363e06cee", func := "loop.example/g03221/laws.FnExactSuccessionOrder", spec := "fnExactSuccessionOrder", inPlace := ["internal/reflectlite.ValueOf", "internal/reflectlite.Swapper", "(internal/reflectlite.Value).Len"], unfollowed := true, recurses := true, plainKeys := false, apart := false, narrowed := true }
def FnExactSuccessionOrderUptoSaid : Prop := fnExactSuccessionOrderUptoRow.holds Try.pinned (OpenSpec.upto fnExactSuccessionOrderSpec)

/-- 'laws.FnExactKinshipByLines', WHERE WHAT IT READS IS OF BULK AT MOST 1048576: true; the input reads as it did. -/
def fnExactKinshipByLinesUptoRow : OpenClaim := { program := "ytfbkeokpiihkaaa", sum := "843912edcf30acb1fb6fcce57dc17221ec36bd4832ad707db074274363e06cee", func := "loop.example/g03221/laws.FnExactKinshipByLines", spec := "fnExactKinshipByLines", inPlace := ["internal/reflectlite.ValueOf", "internal/reflectlite.Swapper", "(internal/reflectlite.Value).Len"], unfollowed := true, recurses := true, plainKeys := false, apart := false, narrowed := true }
def FnExactKinshipByLinesUptoSaid : Prop := fnExactKinshipByLinesUptoRow.holds Try.pinned (OpenSpec.upto fnExactKinshipByLinesSpec)

/-- 'laws.FnExactHoldersOf', WHERE WHAT IT READS IS OF BULK AT MOST 1048576: true; the input reads as it did. -/
def fnExactHoldersOfUptoRow : OpenClaim := { program := "ytfbkeokpiihkaaa", sum := "843912edcf30acb1fb6fcce57dc17221ec36bd4832ad707db074274363e06cee", func := "loop.example/g03221/laws.FnExactHoldersOf", spec := "fnExactHoldersOf", inPlace := ["internal/reflectlite.ValueOf", "internal/reflectlite.Swapper", "(internal/reflectlite.Value).Len"], unfollowed := true, recurses := true, plainKeys := false, apart := false, narrowed := true }
def FnExactHoldersOfUptoSaid : Prop := fnExactHoldersOfUptoRow.holds Try.pinned (OpenSpec.upto fnExactHoldersOfSpec)

end Rows
end Go.Proofs.Ytfbkeokpiihkaaa
