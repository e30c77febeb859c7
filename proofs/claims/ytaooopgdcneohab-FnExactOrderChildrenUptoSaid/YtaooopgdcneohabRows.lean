/-
  No cell of these rows narrows 'for every input' (looked for: loops, veiled, ifaces, maps, wideKeys, modest, calm, conditions, laid).
  DERIVED. THE GIVEN ROWS OF THIS SEAT. 6 by the template 'for every input the law returns true; each argument reads behind the call as it read before'; 0 by the template 'total and deterministic' (their statements: YtaooopgdcneohabTotals.lean).
  GIVEN WITH THE SEED: the statements are not yours to turn. If you find one false, say at which input.
  Laid BY PROGRAM, IN A SANDBOX (cutbox-rows.mjs): the forced cells as the released guide's own fill.sh prints them over the translation 00e07406074de16b… (all of the seat's roots in one cut). By AI agents, Wed Nov 11 2026. No macro, syntax, notation, axiom, sorry.
-/
import Derived.Test.YtaooopgdcneohabChecked
import GoSem.Claim
import GoSem.ClaimJoined
import GoSem.ClaimMapViews
import Derived.JoinedTies
import Derived.KernelRfl
namespace Go.Proofs.Ytaooopgdcneohab
/- THE CELL 'sum', in the pinned program and in every row, IS THE sha256 OF THE DUMP (.gsa) THAT YtaooopgdcneohabProg.lean LOADS. Nothing in Lean hashes anything: it is a label: what it is worth is what the hold of that sum in a sandbox is worth. -/
noncomputable def Try.pinned : Pinned := { name := "ytaooopgdcneohab", sum := "00e07406074de16be04c99b02049fb844b8298edc916fcabc51e0565c16dd66f", checked := Try.checked }
namespace Rows
def none {H : Type} : Left H := { results := [], args := [] }

/-- 'laws.FnExactAuditUnions': WHATEVER THE INPUT: true; the input reads as it did. -/
def fnExactAuditUnionsSpec : ChangeSpec := { name := "fnExactAuditUnions", fn := fun _ => fun
  | [d1, d2] => { results := [.lit (.bool true)], args := [d1, d2] }
  | _ => none }
def fnExactAuditUnionsRow : OpenClaim := { program := "ytaooopgdcneohab", sum := "00e07406074de16be04c99b02049fb844b8298edc916fcabc51e0565c16dd66f", func := "loop.example/g03221/laws.FnExactAuditUnions", spec := "fnExactAuditUnions", unfollowed := true, recurses := true, apart := false }
def FnExactAuditUnionsSaid : Prop := fnExactAuditUnionsRow.holds Try.pinned (OpenSpec.ofChange fnExactAuditUnionsSpec)

/-- ITS FALSE NEIGHBOUR: 'it returns false'. Refute it at one input. -/
def fnExactAuditUnionsWrong : ChangeSpec := { name := "fnExactAuditUnions", fn := fun _ => fun
  | [d1, d2] => { results := [.lit (.bool false)], args := [d1, d2] }
  | _ => none }
def FnExactAuditUnionsWrongFalsely : Prop := fnExactAuditUnionsRow.holds Try.pinned (OpenSpec.ofChange fnExactAuditUnionsWrong)

/-- 'laws.FnExactJoinUnion': WHATEVER THE INPUT: true; the input reads as it did. -/
def fnExactJoinUnionSpec : ChangeSpec := { name := "fnExactJoinUnion", fn := fun _ => fun
  | [d1, d2, d3, d4, d5] => { results := [.lit (.bool true)], args := [d1, d2, d3, d4, d5] }
  | _ => none }
def fnExactJoinUnionRow : OpenClaim := { program := "ytaooopgdcneohab", sum := "00e07406074de16be04c99b02049fb844b8298edc916fcabc51e0565c16dd66f", func := "loop.example/g03221/laws.FnExactJoinUnion", spec := "fnExactJoinUnion", unfollowed := true, recurses := true, apart := false }
def FnExactJoinUnionSaid : Prop := fnExactJoinUnionRow.holds Try.pinned (OpenSpec.ofChange fnExactJoinUnionSpec)

/-- ITS FALSE NEIGHBOUR: 'it returns false'. Refute it at one input. -/
def fnExactJoinUnionWrong : ChangeSpec := { name := "fnExactJoinUnion", fn := fun _ => fun
  | [d1, d2, d3, d4, d5] => { results := [.lit (.bool false)], args := [d1, d2, d3, d4, d5] }
  | _ => none }
def FnExactJoinUnionWrongFalsely : Prop := fnExactJoinUnionRow.holds Try.pinned (OpenSpec.ofChange fnExactJoinUnionWrong)

/-- 'laws.FnExactMostWeddings': WHATEVER THE INPUT: true; the input reads as it did. -/
def fnExactMostWeddingsSpec : ChangeSpec := { name := "fnExactMostWeddings", fn := fun _ => fun
  | [d1, d2, d3] => { results := [.lit (.bool true)], args := [d1, d2, d3] }
  | _ => none }
def fnExactMostWeddingsRow : OpenClaim := { program := "ytaooopgdcneohab", sum := "00e07406074de16be04c99b02049fb844b8298edc916fcabc51e0565c16dd66f", func := "loop.example/g03221/laws.FnExactMostWeddings", spec := "fnExactMostWeddings", unfollowed := true, recurses := true, apart := false }
def FnExactMostWeddingsSaid : Prop := fnExactMostWeddingsRow.holds Try.pinned (OpenSpec.ofChange fnExactMostWeddingsSpec)

/-- ITS FALSE NEIGHBOUR: 'it returns false'. Refute it at one input. -/
def fnExactMostWeddingsWrong : ChangeSpec := { name := "fnExactMostWeddings", fn := fun _ => fun
  | [d1, d2, d3] => { results := [.lit (.bool false)], args := [d1, d2, d3] }
  | _ => none }
def FnExactMostWeddingsWrongFalsely : Prop := fnExactMostWeddingsRow.holds Try.pinned (OpenSpec.ofChange fnExactMostWeddingsWrong)

/-- 'laws.FnExactChronological': WHATEVER THE INPUT: true; the input reads as it did. -/
def fnExactChronologicalSpec : ChangeSpec := { name := "fnExactChronological", fn := fun _ => fun
  | [d] => { results := [.lit (.bool true)], args := [d] }
  | _ => none }
def fnExactChronologicalRow : OpenClaim := { program := "ytaooopgdcneohab", sum := "00e07406074de16be04c99b02049fb844b8298edc916fcabc51e0565c16dd66f", func := "loop.example/g03221/laws.FnExactChronological", spec := "fnExactChronological", inPlace := ["internal/reflectlite.ValueOf", "internal/reflectlite.Swapper", "(internal/reflectlite.Value).Len"], unfollowed := true, recurses := true, apart := false }
def FnExactChronologicalSaid : Prop := fnExactChronologicalRow.holds Try.pinned (OpenSpec.ofChange fnExactChronologicalSpec)

/-- ITS FALSE NEIGHBOUR: 'it returns false'. Refute it at one input. -/
def fnExactChronologicalWrong : ChangeSpec := { name := "fnExactChronological", fn := fun _ => fun
  | [d] => { results := [.lit (.bool false)], args := [d] }
  | _ => none }
def FnExactChronologicalWrongFalsely : Prop := fnExactChronologicalRow.holds Try.pinned (OpenSpec.ofChange fnExactChronologicalWrong)

/-- 'laws.FnExactEventsOf': WHATEVER THE INPUT: true; the input reads as it did. -/
def fnExactEventsOfSpec : ChangeSpec := { name := "fnExactEventsOf", fn := fun _ => fun
  | [d] => { results := [.lit (.bool true)], args := [d] }
  | _ => none }
def fnExactEventsOfRow : OpenClaim := { program := "ytaooopgdcneohab", sum := "00e07406074de16be04c99b02049fb844b8298edc916fcabc51e0565c16dd66f", func := "loop.example/g03221/laws.FnExactEventsOf", spec := "fnExactEventsOf", inPlace := ["internal/reflectlite.ValueOf", "internal/reflectlite.Swapper", "(internal/reflectlite.Value).Len"], unfollowed := true, recurses := true, apart := false }
def FnExactEventsOfSaid : Prop := fnExactEventsOfRow.holds Try.pinned (OpenSpec.ofChange fnExactEventsOfSpec)

/-- ITS FALSE NEIGHBOUR: 'it returns false'. Refute it at one input. -/
def fnExactEventsOfWrong : ChangeSpec := { name := "fnExactEventsOf", fn := fun _ => fun
  | [d] => { results := [.lit (.bool false)], args := [d] }
  | _ => none }
def FnExactEventsOfWrongFalsely : Prop := fnExactEventsOfRow.holds Try.pinned (OpenSpec.ofChange fnExactEventsOfWrong)

/-- 'laws.FnExactOrderChildren': WHATEVER THE INPUT: true; the input reads as it did. -/
def fnExactOrderChildrenSpec : ChangeSpec := { name := "fnExactOrderChildren", fn := fun _ => fun
  | [d1, d2, d3] => { results := [.lit (.bool true)], args := [d1, d2, d3] }
  | _ => none }
def fnExactOrderChildrenRow : OpenClaim := { program := "ytaooopgdcneohab", sum := "00e07406074de16be04c99b02049fb844b8298edc916fcabc51e0565c16dd66f", func := "loop.example/g03221/laws.FnExactOrderChildren", spec := "fnExactOrderChildren", inPlace := ["internal/reflectlite.ValueOf", "internal/reflectlite.Swapper", "(internal/reflectlite.Value).Len"], unfollowed := true, recurses := true, apart := false }
def FnExactOrderChildrenSaid : Prop := fnExactOrderChildrenRow.holds Try.pinned (OpenSpec.ofChange fnExactOrderChildrenSpec)

/-- ITS FALSE NEIGHBOUR: 'it returns false'. Refute it at one input. -/
def fnExactOrderChildrenWrong : ChangeSpec := { name := "fnExactOrderChildren", fn := fun _ => fun
  | [d1, d2, d3] => { results := [.lit (.bool false)], args := [d1, d2, d3] }
  | _ => none }
def FnExactOrderChildrenWrongFalsely : Prop := fnExactOrderChildrenRow.holds Try.pinned (OpenSpec.ofChange fnExactOrderChildrenWrong)

/- THE SECOND FORM. 'bulk': how many values and letters a reading holds, each counted each time it is reached (what is shared counts as often as it is met; a slice's spare places count too). A statement '..UptoSaid' is the law's where the arguments, and the package variables that the reading takes, are together of bulk at most 1048576: NARROWER than '..Said'. Prove '..Said' where nothing that the law and all that it calls make is longer than what came in: it says more and counts as full. Else prove '..UptoSaid'. A law counts once. -/
mutual
def uptoBulk {H : Type} : DataW H → Nat
  | .lit (.string bytes) => bytes.length + 1
  | .lit _ => 1
  | .nil => 1
  | .ptr d => uptoBulk d + 1
  | .slice elems spare => uptoBulkAll elems + uptoBulkAll spare + 1
  | .agg parts => uptoBulkAll parts + 1
  | .iface _ d => uptoBulk d + 1
  | .map entries => uptoBulkEntries entries + 1
  | .held _ => 1
def uptoBulkAll {H : Type} : List (DataW H) → Nat
  | [] => 0
  | d :: r => uptoBulk d + uptoBulkAll r
def uptoBulkEntries {H : Type} : List (Lit × DataW H) → Nat
  | [] => 0
  | x :: r => uptoBulkEntry x + uptoBulkEntries r
def uptoBulkEntry {H : Type} : Lit × DataW H → Nat
  | (.string bytes, d) => bytes.length + uptoBulk d + 1
  | (_, d) => uptoBulk d + 1
 end
def uptoSmall : (H : Type) → List (DataW H) → Bool := fun _ ds => decide (uptoBulkAll ds ≤ 1048576)
def OpenSpec.upto (s : _root_.Go.ChangeSpec) : _root_.Go.OpenSpec := { _root_.Go.OpenSpec.ofChange s with cond := some uptoSmall }

/-- 'laws.FnExactAuditUnions', WHERE WHAT IT READS IS OF BULK AT MOST 1048576: true; the input reads as it did. -/
def fnExactAuditUnionsUptoRow : OpenClaim := { program := "ytaooopgdcneohab", sum := "00e07406074de16be04c99b02049fb844b8298edc916fcabc51e0565c16dd66f", func := "loop.example/g03221/laws.FnExactAuditUnions", spec := "fnExactAuditUnions", unfollowed := true, recurses := true, apart := false, narrowed := true }
def FnExactAuditUnionsUptoSaid : Prop := fnExactAuditUnionsUptoRow.holds Try.pinned (OpenSpec.upto fnExactAuditUnionsSpec)

/-- 'laws.FnExactJoinUnion', WHERE WHAT IT READS IS OF BULK AT MOST 1048576: true; the input reads as it did. -/
def fnExactJoinUnionUptoRow : OpenClaim := { program := "ytaooopgdcneohab", sum := "00e07406074de16be04c99b02049fb844b8298edc916fcabc51e0565c16dd66f", func := "loop.example/g03221/laws.FnExactJoinUnion", spec := "fnExactJoinUnion", unfollowed := true, recurses := true, apart := false, narrowed := true }
def FnExactJoinUnionUptoSaid : Prop := fnExactJoinUnionUptoRow.holds Try.pinned (OpenSpec.upto fnExactJoinUnionSpec)

/-- 'laws.FnExactMostWeddings', WHERE WHAT IT READS IS OF BULK AT MOST 1048576: true; the input reads as it did. -/
def fnExactMostWeddingsUptoRow : OpenClaim := { program := "ytaooopgdcneohab", sum := "00e07406074de16be04c99b02049fb844b8298edc916fcabc51e0565c16dd66f", func := "loop.example/g03221/laws.FnExactMostWeddings", spec := "fnExactMostWeddings", unfollowed := true, recurses := true, apart := false, narrowed := true }
def FnExactMostWeddingsUptoSaid : Prop := fnExactMostWeddingsUptoRow.holds Try.pinned (OpenSpec.upto fnExactMostWeddingsSpec)

/-- 'laws.FnExactChronological', WHERE WHAT IT READS IS OF BULK AT MOST 1048576: true; the input reads as it did. -/
def fnExactChronologicalUptoRow : OpenClaim := { program := "ytaooopgdcneohab", sum := "00e07406074de16be04c99b02049fb844b8298edc916fcabc51e0565c16dd66f", func := "loop.example/g03221/laws.FnExactChronological", spec := "fnExactChronological", inPlace := ["internal/reflectlite.ValueOf", "internal/reflectlite.Swapper", "(internal/reflectlite.Value).Len"], unfollowed := true, recurses := true, apart := false, narrowed := true }
def FnExactChronologicalUptoSaid : Prop := fnExactChronologicalUptoRow.holds Try.pinned (OpenSpec.upto fnExactChronologicalSpec)

/-- 'laws.FnExactEventsOf', WHERE WHAT IT READS IS OF BULK AT MOST 1048576: true; the input reads as it did. -/
def fnExactEventsOfUptoRow : OpenClaim := { program := "ytaooopgdcneohab", sum := "00e07406074de16be04c99b02049fb844b8298edc916fcabc51e0565c16dd66f", func := "loop.example/g03221/laws.FnExactEventsOf", spec := "fnExactEventsOf", inPlace := ["internal/reflectlite.ValueOf", "internal/reflectlite.Swapper", "(internal/reflectlite.Value).Len"], unfollowed := true, recurses := true, apart := false, narrowed := true }
def FnExactEventsOfUptoSaid : Prop := fnExactEventsOfUptoRow.holds Try.pinned (OpenSpec.upto fnExactEventsOfSpec)

/-- 'laws.FnExactOrderChildren', WHERE WHAT IT READS IS OF BULK AT MOST 1048576: true; the input reads as it did. -/
def fnExactOrderChildrenUptoRow : OpenClaim := { program := "ytaooopgdcneohab", sum := "00e07406074de16be04c99b02049fb844b8298edc916fcabc51e0565c16dd66f", func := "loop.example/g03221/laws.FnExactOrderChildren", spec := "fnExactOrderChildren", inPlace := ["internal/reflectlite.ValueOf", "internal/reflectlite.Swapper", "(internal/reflectlite.Value).Len"], unfollowed := true, recurses := true, apart := false, narrowed := true }
def FnExactOrderChildrenUptoSaid : Prop := fnExactOrderChildrenUptoRow.holds Try.pinned (OpenSpec.upto fnExactOrderChildrenSpec)

end Rows
end Go.Proofs.Ytaooopgdcneohab
