/-
  No cell of these rows narrows 'for every input' (looked for: loops, veiled, ifaces, maps, wideKeys, modest, calm, conditions, laid).
  DERIVED. THE GIVEN ROWS OF THIS SEAT. 6 by the template 'for every input the law returns true; each argument reads behind the call as it read before'; 0 by the template 'total and deterministic' (their statements: YtanpfncfphpddabTotals.lean).
  GIVEN WITH THE SEED: the statements are not yours to turn. If you find one false, say at which input.
  Laid BY PROGRAM, IN A SANDBOX (cutbox-rows.mjs): the forced cells as the released guide's own fill.sh prints them over the translation 80945ca99adb4100… (all of the seat's roots in one cut). By AI agents, Wed Nov 11 2026. No macro, syntax, notation, axiom, sorry.
-/
import Derived.Test.YtanpfncfphpddabChecked
import GoSem.Claim
import GoSem.ClaimJoined
import GoSem.ClaimMapViews
import Derived.JoinedTies
import Derived.KernelRfl
namespace Go.Proofs.Ytanpfncfphpddab
/- THE CELL 'sum', in the pinned program and in every row, IS THE sha256 OF THE DUMP (.gsa) THAT YtanpfncfphpddabProg.lean LOADS. Nothing in Lean hashes anything: it is a label: what it is worth is what the hold of that sum in a sandbox is worth. -/
noncomputable def Try.pinned : Pinned := { name := "ytanpfncfphpddab", sum := "80945ca99adb41004d44b190d46d32252641dda813e4ad88a4e25258345b6c74", checked := Try.checked }
namespace Rows
def none {H : Type} : Left H := { results := [], args := [] }

/-- 'laws.FnExactAncestorsOf': WHATEVER THE INPUT: true; the input reads as it did. -/
def fnExactAncestorsOfSpec : ChangeSpec := { name := "fnExactAncestorsOf", fn := fun _ => fun
  | [d1, d2] => { results := [.lit (.bool true)], args := [d1, d2] }
  | _ => none }
def fnExactAncestorsOfRow : OpenClaim := { program := "ytanpfncfphpddab", sum := "80945ca99adb41004d44b190d46d32252641dda813e4ad88a4e25258345b6c74", func := "loop.example/g03221/laws.FnExactAncestorsOf", spec := "fnExactAncestorsOf", plainKeys := false, apart := false }
def FnExactAncestorsOfSaid : Prop := fnExactAncestorsOfRow.holds Try.pinned (OpenSpec.ofChange fnExactAncestorsOfSpec)

/-- ITS FALSE NEIGHBOUR: 'it returns false'. Refute it at one input. -/
def fnExactAncestorsOfWrong : ChangeSpec := { name := "fnExactAncestorsOf", fn := fun _ => fun
  | [d1, d2] => { results := [.lit (.bool false)], args := [d1, d2] }
  | _ => none }
def FnExactAncestorsOfWrongFalsely : Prop := fnExactAncestorsOfRow.holds Try.pinned (OpenSpec.ofChange fnExactAncestorsOfWrong)

/-- 'laws.FnExactDescendantsOf': WHATEVER THE INPUT: true; the input reads as it did. -/
def fnExactDescendantsOfSpec : ChangeSpec := { name := "fnExactDescendantsOf", fn := fun _ => fun
  | [d1, d2] => { results := [.lit (.bool true)], args := [d1, d2] }
  | _ => none }
def fnExactDescendantsOfRow : OpenClaim := { program := "ytanpfncfphpddab", sum := "80945ca99adb41004d44b190d46d32252641dda813e4ad88a4e25258345b6c74", func := "loop.example/g03221/laws.FnExactDescendantsOf", spec := "fnExactDescendantsOf", plainKeys := false, apart := false }
def FnExactDescendantsOfSaid : Prop := fnExactDescendantsOfRow.holds Try.pinned (OpenSpec.ofChange fnExactDescendantsOfSpec)

/-- ITS FALSE NEIGHBOUR: 'it returns false'. Refute it at one input. -/
def fnExactDescendantsOfWrong : ChangeSpec := { name := "fnExactDescendantsOf", fn := fun _ => fun
  | [d1, d2] => { results := [.lit (.bool false)], args := [d1, d2] }
  | _ => none }
def FnExactDescendantsOfWrongFalsely : Prop := fnExactDescendantsOfRow.holds Try.pinned (OpenSpec.ofChange fnExactDescendantsOfWrong)

/-- 'laws.FnExactCommonAncestors': WHATEVER THE INPUT: true; the input reads as it did. -/
def fnExactCommonAncestorsSpec : ChangeSpec := { name := "fnExactCommonAncestors", fn := fun _ => fun
  | [d1, d2, d3] => { results := [.lit (.bool true)], args := [d1, d2, d3] }
  | _ => none }
def fnExactCommonAncestorsRow : OpenClaim := { program := "ytanpfncfphpddab", sum := "80945ca99adb41004d44b190d46d32252641dda813e4ad88a4e25258345b6c74", func := "loop.example/g03221/laws.FnExactCommonAncestors", spec := "fnExactCommonAncestors", plainKeys := false, apart := false }
def FnExactCommonAncestorsSaid : Prop := fnExactCommonAncestorsRow.holds Try.pinned (OpenSpec.ofChange fnExactCommonAncestorsSpec)

/-- ITS FALSE NEIGHBOUR: 'it returns false'. Refute it at one input. -/
def fnExactCommonAncestorsWrong : ChangeSpec := { name := "fnExactCommonAncestors", fn := fun _ => fun
  | [d1, d2, d3] => { results := [.lit (.bool false)], args := [d1, d2, d3] }
  | _ => none }
def FnExactCommonAncestorsWrongFalsely : Prop := fnExactCommonAncestorsRow.holds Try.pinned (OpenSpec.ofChange fnExactCommonAncestorsWrong)

/-- 'laws.FnExactNearestCommon': WHATEVER THE INPUT: true; the input reads as it did. -/
def fnExactNearestCommonSpec : ChangeSpec := { name := "fnExactNearestCommon", fn := fun _ => fun
  | [d1, d2, d3] => { results := [.lit (.bool true)], args := [d1, d2, d3] }
  | _ => none }
def fnExactNearestCommonRow : OpenClaim := { program := "ytanpfncfphpddab", sum := "80945ca99adb41004d44b190d46d32252641dda813e4ad88a4e25258345b6c74", func := "loop.example/g03221/laws.FnExactNearestCommon", spec := "fnExactNearestCommon", plainKeys := false, apart := false }
def FnExactNearestCommonSaid : Prop := fnExactNearestCommonRow.holds Try.pinned (OpenSpec.ofChange fnExactNearestCommonSpec)

/-- ITS FALSE NEIGHBOUR: 'it returns false'. Refute it at one input. -/
def fnExactNearestCommonWrong : ChangeSpec := { name := "fnExactNearestCommon", fn := fun _ => fun
  | [d1, d2, d3] => { results := [.lit (.bool false)], args := [d1, d2, d3] }
  | _ => none }
def FnExactNearestCommonWrongFalsely : Prop := fnExactNearestCommonRow.holds Try.pinned (OpenSpec.ofChange fnExactNearestCommonWrong)

/-- 'laws.FnKinship': WHATEVER THE INPUT: true; the input reads as it did. -/
def fnKinshipSpec : ChangeSpec := { name := "fnKinship", fn := fun _ => fun
  | [d] => { results := [.lit (.bool true)], args := [d] }
  | _ => none }
def fnKinshipRow : OpenClaim := { program := "ytanpfncfphpddab", sum := "80945ca99adb41004d44b190d46d32252641dda813e4ad88a4e25258345b6c74", func := "loop.example/g03221/laws.FnKinship", spec := "fnKinship", recurses := true, plainKeys := false, apart := false }
def FnKinshipSaid : Prop := fnKinshipRow.holds Try.pinned (OpenSpec.ofChange fnKinshipSpec)

/-- ITS FALSE NEIGHBOUR: 'it returns false'. Refute it at one input. -/
def fnKinshipWrong : ChangeSpec := { name := "fnKinship", fn := fun _ => fun
  | [d] => { results := [.lit (.bool false)], args := [d] }
  | _ => none }
def FnKinshipWrongFalsely : Prop := fnKinshipRow.holds Try.pinned (OpenSpec.ofChange fnKinshipWrong)

/-- 'laws.FnDegrees': WHATEVER THE INPUT: true; the input reads as it did. -/
def fnDegreesSpec : ChangeSpec := { name := "fnDegrees", fn := fun _ => fun
  | [d] => { results := [.lit (.bool true)], args := [d] }
  | _ => none }
def fnDegreesRow : OpenClaim := { program := "ytanpfncfphpddab", sum := "80945ca99adb41004d44b190d46d32252641dda813e4ad88a4e25258345b6c74", func := "loop.example/g03221/laws.FnDegrees", spec := "fnDegrees", plainKeys := false, apart := false }
def FnDegreesSaid : Prop := fnDegreesRow.holds Try.pinned (OpenSpec.ofChange fnDegreesSpec)

/-- ITS FALSE NEIGHBOUR: 'it returns false'. Refute it at one input. -/
def fnDegreesWrong : ChangeSpec := { name := "fnDegrees", fn := fun _ => fun
  | [d] => { results := [.lit (.bool false)], args := [d] }
  | _ => none }
def FnDegreesWrongFalsely : Prop := fnDegreesRow.holds Try.pinned (OpenSpec.ofChange fnDegreesWrong)

/- THE SECOND FORM. 'bulk': how many values and letters a reading holds, each counted each time it is reached (what is shared counts as often as it is met; a slice's spare places count too). A statement '..UptoSaid' is the law's where the arguments, and the package variables that the reading takes, are together of bulk at most 1048576: NARROWER than '..Said'. Prove '..Said' where nothing that the law and all that it calls make is longer than what came in: it says more and counts as full. Else prove '..UptoSaid'. A law counts once. -/
mutual
def uptoBulk {H : Type} : DataW H → Nat
  | .lit (.string bytes) => bytes.length + 1
  | .lit _ => 1
  | .nil => 1
  | .ptr d => uptoBulk d + 1
  | .slice elems spare => uptoBulkAll elems + uptoBulkAll spare + 1
  | .agg parts => uptoBulkAll parts + 1
  | .iface _ d => uptoBulk d + 1
  | .map entries => uptoBulkEntries entries + 1
  | .held _ => 1
def uptoBulkAll {H : Type} : List (DataW H) → Nat
  | [] => 0
  | d :: r => uptoBulk d + uptoBulkAll r
def uptoBulkEntries {H : Type} : List (Lit × DataW H) → Nat
  | [] => 0
  | x :: r => uptoBulkEntry x + uptoBulkEntries r
def uptoBulkEntry {H : Type} : Lit × DataW H → Nat
  | (.string bytes, d) => bytes.length + uptoBulk d + 1
  | (_, d) => uptoBulk d + 1
 end
def uptoSmall : (H : Type) → List (DataW H) → Bool := fun _ ds => decide (uptoBulkAll ds ≤ 1048576)
def OpenSpec.upto (s : _root_.Go.ChangeSpec) : _root_.Go.OpenSpec := { _root_.Go.OpenSpec.ofChange s with cond := some uptoSmall }

/-- 'laws.FnExactAncestorsOf', WHERE WHAT IT READS IS OF BULK AT MOST 1048576: true; the input reads as it did. -/
def fnExactAncestorsOfUptoRow : OpenClaim := { program := "ytanpfncfphpddab", sum := "80945ca99adb41004d44b190d46d32252641dda813e4ad88a4e25258345b6c74", func := "loop.example/g03221/laws.FnExactAncestorsOf", spec := "fnExactAncestorsOf", plainKeys := false, apart := false, narrowed := true }
def FnExactAncestorsOfUptoSaid : Prop := fnExactAncestorsOfUptoRow.holds Try.pinned (OpenSpec.upto fnExactAncestorsOfSpec)

/-- 'laws.FnExactDescendantsOf', WHERE WHAT IT READS IS OF BULK AT MOST 1048576: true; the input reads as it did. -/
def fnExactDescendantsOfUptoRow : OpenClaim := { program := "ytanpfncfphpddab", sum := "80945ca99adb41004d44b190d46d32252641dda813e4ad88a4e25258345b6c74", func := "loop.example/g03221/laws.FnExactDescendantsOf", spec := "fnExactDescendantsOf", plainKeys := false, apart := false, narrowed := true }
def FnExactDescendantsOfUptoSaid : Prop := fnExactDescendantsOfUptoRow.holds Try.pinned (OpenSpec.upto fnExactDescendantsOfSpec)

/-- 'laws.FnExactCommonAncestors', WHERE WHAT IT READS IS OF BULK AT MOST 1048576: true; the input reads as it did. -/
def fnExactCommonAncestorsUptoRow : OpenClaim := { program := "ytanpfncfphpddab", sum := "80945ca99adb41004d44b190d46d32252641dda813e4ad88a4e25258345b6c74", func := "loop.example/g03221/laws.FnExactCommonAncestors", spec := "fnExactCommonAncestors", plainKeys := false, apart := false, narrowed := true }
def FnExactCommonAncestorsUptoSaid : Prop := fnExactCommonAncestorsUptoRow.holds Try.pinned (OpenSpec.upto fnExactCommonAncestorsSpec)

/-- 'laws.FnExactNearestCommon', WHERE WHAT IT READS IS OF BULK AT MOST 1048576: true; the input reads as it did. -/
def fnExactNearestCommonUptoRow : OpenClaim := { program := "ytanpfncfphpddab", sum := "80945ca99adb41004d44b190d46d32252641dda813e4ad88a4e25258345b6c74", func := "loop.example/g03221/laws.FnExactNearestCommon", spec := "fnExactNearestCommon", plainKeys := false, apart := false, narrowed := true }
def FnExactNearestCommonUptoSaid : Prop := fnExactNearestCommonUptoRow.holds Try.pinned (OpenSpec.upto fnExactNearestCommonSpec)

/-- 'laws.FnKinship', WHERE WHAT IT READS IS OF BULK AT MOST 1048576: true; the input reads as it did. -/
def fnKinshipUptoRow : OpenClaim := { program := "ytanpfncfphpddab", sum := "80945ca99adb41004d44b190d46d32252641dda813e4ad88a4e25258345b6c74", func := "loop.example/g03221/laws.FnKinship", spec := "fnKinship", recurses := true, plainKeys := false, apart := false, narrowed := true }
def FnKinshipUptoSaid : Prop := fnKinshipUptoRow.holds Try.pinned (OpenSpec.upto fnKinshipSpec)

/-- 'laws.FnDegrees', WHERE WHAT IT READS IS OF BULK AT MOST 1048576: true; the input reads as it did. -/
def fnDegreesUptoRow : OpenClaim := { program := "ytanpfncfphpddab", sum := "80945ca99adb41004d44b190d46d32252641dda813e4ad88a4e25258345b6c74", func := "loop.example/g03221/laws.FnDegrees", spec := "fnDegrees", plainKeys := false, apart := false, narrowed := true }
def FnDegreesUptoSaid : Prop := fnDegreesUptoRow.holds Try.pinned (OpenSpec.upto fnDegreesSpec)

end Rows
end Go.Proofs.Ytanpfncfphpddab
