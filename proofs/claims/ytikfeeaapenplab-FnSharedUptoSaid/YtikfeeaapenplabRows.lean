/-
  No cell of these rows narrows 'for every input' (looked for: loops, veiled, ifaces, maps, wideKeys, modest, calm, conditions, laid).
  DERIVED. THE GIVEN ROWS OF THIS SEAT. 5 by the template 'for every input the law returns true; each argument reads behind the call as it read before'; 0 by the template 'total and deterministic' (their statements: YtikfeeaapenplabTotals.lean).
  GIVEN WITH THE SEED: the statements are not yours to turn. If you find one false, say at which input.
  Laid BY PROGRAM, IN A SANDBOX (cutbox-rows.mjs): the forced cells as the released guide's own fill.sh prints them over the translation d66d98ec8606fc74… (all of the seat's roots in one cut). By AI agents, Wed Nov 11 2026. No macro, syntax, notation, axiom, sorry.
-/
import Derived.Test.YtikfeeaapenplabChecked
import GoSem.Claim
import GoSem.ClaimJoined
import GoSem.ClaimMapViews
import Derived.JoinedTies
import Derived.KernelRfl
namespace Go.Proofs.Ytikfeeaapenplab
/- THE CELL 'sum', in the pinned program and in every row, IS THE sha256 OF THE DUMP (.gsa) THAT YtikfeeaapenplabProg.lean LOADS. Nothing in Lean hashes anything: it is a label: what it is worth is what the hold of that sum in a sandbox is worth. -/
noncomputable def Try.pinned : Pinned := { name := "ytikfeeaapenplab", sum := "d66d98ec8606fc74c04723870bd3194cfd9dcbc0fbafa2681464ef59214270e9", checked := Try.checked }
namespace Rows
def none {H : Type} : Left H := { results := [], args := [] }

/-- 'laws.FnDescents': WHATEVER THE INPUT: true; the input reads as it did. -/
def fnDescentsSpec : ChangeSpec := { name := "fnDescents", fn := fun _ => fun
  | [d] => { results := [.lit (.bool true)], args := [d] }
  | _ => none }
def fnDescentsRow : OpenClaim := { program := "ytikfeeaapenplab", sum := "d66d98ec8606fc74c04723870bd3194cfd9dcbc0fbafa2681464ef59214270e9", func := "loop.example/g03221/laws.FnDescents", spec := "fnDescents", inPlace := ["internal/reflectlite.ValueOf", "internal/reflectlite.Swapper", "(internal/reflectlite.Value).Len"], unfollowed := true, recurses := true, plainKeys := false, apart := false }
def FnDescentsSaid : Prop := fnDescentsRow.holds Try.pinned (OpenSpec.ofChange fnDescentsSpec)

/-- ITS FALSE NEIGHBOUR: 'it returns false'. Refute it at one input. -/
def fnDescentsWrong : ChangeSpec := { name := "fnDescents", fn := fun _ => fun
  | [d] => { results := [.lit (.bool false)], args := [d] }
  | _ => none }
def FnDescentsWrongFalsely : Prop := fnDescentsRow.holds Try.pinned (OpenSpec.ofChange fnDescentsWrong)

/-- 'laws.FnShared': WHATEVER THE INPUT: true; the input reads as it did. -/
def fnSharedSpec : ChangeSpec := { name := "fnShared", fn := fun _ => fun
  | [d] => { results := [.lit (.bool true)], args := [d] }
  | _ => none }
def fnSharedRow : OpenClaim := { program := "ytikfeeaapenplab", sum := "d66d98ec8606fc74c04723870bd3194cfd9dcbc0fbafa2681464ef59214270e9", func := "loop.example/g03221/laws.FnShared", spec := "fnShared", inPlace := ["internal/reflectlite.ValueOf", "internal/reflectlite.Swapper", "(internal/reflectlite.Value).Len"], unfollowed := true, recurses := true, plainKeys := false, apart := false }
def FnSharedSaid : Prop := fnSharedRow.holds Try.pinned (OpenSpec.ofChange fnSharedSpec)

/-- ITS FALSE NEIGHBOUR: 'it returns false'. Refute it at one input. -/
def fnSharedWrong : ChangeSpec := { name := "fnShared", fn := fun _ => fun
  | [d] => { results := [.lit (.bool false)], args := [d] }
  | _ => none }
def FnSharedWrongFalsely : Prop := fnSharedRow.holds Try.pinned (OpenSpec.ofChange fnSharedWrong)

/-- 'laws.FnSucceeded': WHATEVER THE INPUT: true; the input reads as it did. -/
def fnSucceededSpec : ChangeSpec := { name := "fnSucceeded", fn := fun _ => fun
  | [d] => { results := [.lit (.bool true)], args := [d] }
  | _ => none }
def fnSucceededRow : OpenClaim := { program := "ytikfeeaapenplab", sum := "d66d98ec8606fc74c04723870bd3194cfd9dcbc0fbafa2681464ef59214270e9", func := "loop.example/g03221/laws.FnSucceeded", spec := "fnSucceeded", inPlace := ["internal/reflectlite.ValueOf", "internal/reflectlite.Swapper", "(internal/reflectlite.Value).Len"], unfollowed := true, recurses := true, plainKeys := false, apart := false }
def FnSucceededSaid : Prop := fnSucceededRow.holds Try.pinned (OpenSpec.ofChange fnSucceededSpec)

/-- ITS FALSE NEIGHBOUR: 'it returns false'. Refute it at one input. -/
def fnSucceededWrong : ChangeSpec := { name := "fnSucceeded", fn := fun _ => fun
  | [d] => { results := [.lit (.bool false)], args := [d] }
  | _ => none }
def FnSucceededWrongFalsely : Prop := fnSucceededRow.holds Try.pinned (OpenSpec.ofChange fnSucceededWrong)

/-- 'laws.FnWright': WHATEVER THE INPUT: true; the input reads as it did. -/
def fnWrightSpec : ChangeSpec := { name := "fnWright", fn := fun _ => fun
  | [d] => { results := [.lit (.bool true)], args := [d] }
  | _ => none }
def fnWrightRow : OpenClaim := { program := "ytikfeeaapenplab", sum := "d66d98ec8606fc74c04723870bd3194cfd9dcbc0fbafa2681464ef59214270e9", func := "loop.example/g03221/laws.FnWright", spec := "fnWright", inPlace := ["internal/reflectlite.ValueOf", "internal/reflectlite.Swapper", "(internal/reflectlite.Value).Len"], unfollowed := true, recurses := true, plainKeys := false, apart := false }
def FnWrightSaid : Prop := fnWrightRow.holds Try.pinned (OpenSpec.ofChange fnWrightSpec)

/-- ITS FALSE NEIGHBOUR: 'it returns false'. Refute it at one input. -/
def fnWrightWrong : ChangeSpec := { name := "fnWright", fn := fun _ => fun
  | [d] => { results := [.lit (.bool false)], args := [d] }
  | _ => none }
def FnWrightWrongFalsely : Prop := fnWrightRow.holds Try.pinned (OpenSpec.ofChange fnWrightWrong)

/-- 'laws.FnPrescribed': WHATEVER THE INPUT: true; the input reads as it did. -/
def fnPrescribedSpec : ChangeSpec := { name := "fnPrescribed", fn := fun _ => fun
  | [d] => { results := [.lit (.bool true)], args := [d] }
  | _ => none }
def fnPrescribedRow : OpenClaim := { program := "ytikfeeaapenplab", sum := "d66d98ec8606fc74c04723870bd3194cfd9dcbc0fbafa2681464ef59214270e9", func := "loop.example/g03221/laws.FnPrescribed", spec := "fnPrescribed", unfollowed := true, recurses := true, plainKeys := false, apart := false }
def FnPrescribedSaid : Prop := fnPrescribedRow.holds Try.pinned (OpenSpec.ofChange fnPrescribedSpec)

/-- ITS FALSE NEIGHBOUR: 'it returns false'. Refute it at one input. -/
def fnPrescribedWrong : ChangeSpec := { name := "fnPrescribed", fn := fun _ => fun
  | [d] => { results := [.lit (.bool false)], args := [d] }
  | _ => none }
def FnPrescribedWrongFalsely : Prop := fnPrescribedRow.holds Try.pinned (OpenSpec.ofChange fnPrescribedWrong)

/- THE SECOND FORM. 'bulk': how many values and letters a reading holds, each counted each time it is reached (what is shared counts as often as it is met; a slice's spare places count too). A statement '..UptoSaid' is the law's where the arguments, and the package variables that the reading takes, are together of bulk at most 1048576: NARROWER than '..Said'. Prove '..Said' where nothing that the law and all that it calls make is longer than what came in: it says more and counts as full. Else prove '..UptoSaid'. A law counts once. -/
mutual
def uptoBulk {H : Type} : DataW H → Nat
  | .lit (.string bytes) => bytes.length + 1
  | .lit _ => 1
  | .nil => 1
  | .ptr d => uptoBulk d + 1
  | .slice elems spare => uptoBulkAll elems + uptoBulkAll spare + 1
  | .agg parts => uptoBulkAll parts + 1
  | .iface _ d => uptoBulk d + 1
  | .map entries => uptoBulkEntries entries + 1
  | .held _ => 1
def uptoBulkAll {H : Type} : List (DataW H) → Nat
  | [] => 0
  | d :: r => uptoBulk d + uptoBulkAll r
def uptoBulkEntries {H : Type} : List (Lit × DataW H) → Nat
  | [] => 0
  | x :: r => uptoBulkEntry x + uptoBulkEntries r
def uptoBulkEntry {H : Type} : Lit × DataW H → Nat
  | (.string bytes, d) => bytes.length + uptoBulk d + 1
  | (_, d) => uptoBulk d + 1
 end
def uptoSmall : (H : Type) → List (DataW H) → Bool := fun _ ds => decide (uptoBulkAll ds ≤ 1048576)
def OpenSpec.upto (s : _root_.Go.ChangeSpec) : _root_.Go.OpenSpec := { _root_.Go.OpenSpec.ofChange s with cond := some uptoSmall }

/-- 'laws.FnDescents', WHERE WHAT IT READS IS OF BULK AT MOST 1048576: true; the input reads as it did. -/
def fnDescentsUptoRow : OpenClaim := { program := "ytikfeeaapenplab", sum := "d66d98ec8606fc74c04723870bd3194cfd9dcbc0fbafa2681464ef59214270e9", func := "loop.example/g03221/laws.FnDescents", spec := "fnDescents", inPlace := ["internal/reflectlite.ValueOf", "internal/reflectlite.Swapper", "(internal/reflectlite.Value).Len"], unfollowed := true, recurses := true, plainKeys := false, apart := false, narrowed := true }
def FnDescentsUptoSaid : Prop := fnDescentsUptoRow.holds Try.pinned (OpenSpec.upto fnDescentsSpec)

/-- 'laws.FnShared', WHERE WHAT IT READS IS OF BULK AT MOST 1048576: true; the input reads as it did. -/
def fnSharedUptoRow : OpenClaim := { program := "ytikfeeaapenplab", sum := "d66d98ec8606fc74c04723870bd3194cfd9dcbc0fbafa2681464ef59214270e9", func := "loop.example/g03221/laws.FnShared", spec := "fnShared", inPlace := ["internal/reflectlite.ValueOf", "internal/reflectlite.Swapper", "(internal/reflectlite.Value).Len"], unfollowed := true, recurses := true, plainKeys := false, apart := false, narrowed := true }
def FnSharedUptoSaid : Prop := fnSharedUptoRow.holds Try.pinned (OpenSpec.upto fnSharedSpec)

/-- 'laws.FnSucceeded', WHERE WHAT IT READS IS OF BULK AT MOST 1048576: true; the input reads as it did. -/
def fnSucceededUptoRow : OpenClaim := { program := "ytikfeeaapenplab", sum := "d66d98ec8606fc74c04723870bd3194cfd9dcbc0fbafa2681464ef59214270e9", func := "loop.example/g03221/laws.FnSucceeded", spec := "fnSucceeded", inPlace := ["internal/reflectlite.ValueOf", "internal/reflectlite.Swapper", "(internal/reflectlite.Value).Len"], unfollowed := true, recurses := true, plainKeys := false, apart := false, narrowed := true }
def FnSucceededUptoSaid : Prop := fnSucceededUptoRow.holds Try.pinned (OpenSpec.upto fnSucceededSpec)

/-- 'laws.FnWright', WHERE WHAT IT READS IS OF BULK AT MOST 1048576: true; the input reads as it did. -/
def fnWrightUptoRow : OpenClaim := { program := "ytikfeeaapenplab", sum := "d66d98ec8606fc74c04723870bd3194cfd9dcbc0fbafa2681464ef59214270e9", func := "loop.example/g03221/laws.FnWright", spec := "fnWright", inPlace := ["internal/reflectlite.ValueOf", "internal/reflectlite.Swapper", "(internal/reflectlite.Value).Len"], unfollowed := true, recurses := true, plainKeys := false, apart := false, narrowed := true }
def FnWrightUptoSaid : Prop := fnWrightUptoRow.holds Try.pinned (OpenSpec.upto fnWrightSpec)

/-- 'laws.FnPrescribed', WHERE WHAT IT READS IS OF BULK AT MOST 1048576: true; the input reads as it did. -/
def fnPrescribedUptoRow : OpenClaim := { program := "ytikfeeaapenplab", sum := "d66d98ec8606fc74c04723870bd3194cfd9dcbc0fbafa2681464ef59214270e9", func := "loop.example/g03221/laws.FnPrescribed", spec := "fnPrescribed", unfollowed := true, recurses := true, plainKeys := false, apart := false, narrowed := true }
def FnPrescribedUptoSaid : Prop := fnPrescribedUptoRow.holds Try.pinned (OpenSpec.upto fnPrescribedSpec)

end Rows
end Go.Proofs.Ytikfeeaapenplab
