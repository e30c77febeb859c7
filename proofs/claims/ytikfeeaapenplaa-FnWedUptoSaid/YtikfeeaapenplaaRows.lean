/-
  No cell of these rows narrows 'for every input' (looked for: loops, veiled, ifaces, maps, wideKeys, modest, calm, conditions, laid).
  DERIVED. THE GIVEN ROWS OF THIS SEAT. 6 by the template 'for every input the law returns true; each argument reads behind the call as it read before'; 0 by the template 'total and deterministic' (their statements: YtikfeeaapenplaaTotals.lean).
  GIVEN WITH THE SEED: the statements are not yours to turn. If you find one false, say at which input.
  Laid BY PROGRAM, IN A SANDBOX (cutbox-rows.mjs): the forced cells as the released guide's own fill.sh prints them over the translation 1ca1b91c9084de6d… (all of the seat's roots in one cut). By AI agents, Wed Nov 11 2026. No macro, syntax, notation, axiom, sorry.
-/
import Derived.Test.YtikfeeaapenplaaChecked
import GoSem.Claim
import GoSem.ClaimJoined
import GoSem.ClaimMapViews
import Derived.JoinedTies
import Derived.KernelRfl
namespace Go.Proofs.Ytikfeeaapenplaa
/- THE CELL 'sum', in the pinned program and in every row, IS THE sha256 OF THE DUMP (.gsa) THAT YtikfeeaapenplaaProg.lean LOADS. Nothing in Lean hashes anything: it is a label: what it is worth is what the hold of that sum in a sandbox is worth. -/
noncomputable def Try.pinned : Pinned := { name := "ytikfeeaapenplaa", sum := "1ca1b91c9084de6d7538975a834da13776547f8aa0724d730024ab1ff04acd83", checked := Try.checked }
namespace Rows
def none {H : Type} : Left H := { results := [], args := [] }

/-- 'laws.FnStricter': WHATEVER THE INPUT: true; the input reads as it did. -/
def fnStricterSpec : ChangeSpec := { name := "fnStricter", fn := fun _ => fun
  | [d] => { results := [.lit (.bool true)], args := [d] }
  | _ => none }
def fnStricterRow : OpenClaim := { program := "ytikfeeaapenplaa", sum := "1ca1b91c9084de6d7538975a834da13776547f8aa0724d730024ab1ff04acd83", func := "loop.example/g03221/laws.FnStricter", spec := "fnStricter", unfollowed := true, recurses := true, apart := false }
def FnStricterSaid : Prop := fnStricterRow.holds Try.pinned (OpenSpec.ofChange fnStricterSpec)

/-- ITS FALSE NEIGHBOUR: 'it returns false'. Refute it at one input. -/
def fnStricterWrong : ChangeSpec := { name := "fnStricter", fn := fun _ => fun
  | [d] => { results := [.lit (.bool false)], args := [d] }
  | _ => none }
def FnStricterWrongFalsely : Prop := fnStricterRow.holds Try.pinned (OpenSpec.ofChange fnStricterWrong)

/-- 'laws.FnSince': WHATEVER THE INPUT: true; the input reads as it did. -/
def fnSinceSpec : ChangeSpec := { name := "fnSince", fn := fun _ => fun
  | [d] => { results := [.lit (.bool true)], args := [d] }
  | _ => none }
def fnSinceRow : OpenClaim := { program := "ytikfeeaapenplaa", sum := "1ca1b91c9084de6d7538975a834da13776547f8aa0724d730024ab1ff04acd83", func := "loop.example/g03221/laws.FnSince", spec := "fnSince", unfollowed := true, recurses := true, apart := false }
def FnSinceSaid : Prop := fnSinceRow.holds Try.pinned (OpenSpec.ofChange fnSinceSpec)

/-- ITS FALSE NEIGHBOUR: 'it returns false'. Refute it at one input. -/
def fnSinceWrong : ChangeSpec := { name := "fnSince", fn := fun _ => fun
  | [d] => { results := [.lit (.bool false)], args := [d] }
  | _ => none }
def FnSinceWrongFalsely : Prop := fnSinceRow.holds Try.pinned (OpenSpec.ofChange fnSinceWrong)

/-- 'laws.FnWeddings': WHATEVER THE INPUT: true; the input reads as it did. -/
def fnWeddingsSpec : ChangeSpec := { name := "fnWeddings", fn := fun _ => fun
  | [d] => { results := [.lit (.bool true)], args := [d] }
  | _ => none }
def fnWeddingsRow : OpenClaim := { program := "ytikfeeaapenplaa", sum := "1ca1b91c9084de6d7538975a834da13776547f8aa0724d730024ab1ff04acd83", func := "loop.example/g03221/laws.FnWeddings", spec := "fnWeddings", unfollowed := true, recurses := true, apart := false }
def FnWeddingsSaid : Prop := fnWeddingsRow.holds Try.pinned (OpenSpec.ofChange fnWeddingsSpec)

/-- ITS FALSE NEIGHBOUR: 'it returns false'. Refute it at one input. -/
def fnWeddingsWrong : ChangeSpec := { name := "fnWeddings", fn := fun _ => fun
  | [d] => { results := [.lit (.bool false)], args := [d] }
  | _ => none }
def FnWeddingsWrongFalsely : Prop := fnWeddingsRow.holds Try.pinned (OpenSpec.ofChange fnWeddingsWrong)

/-- 'laws.FnWed': WHATEVER THE INPUT: true; the input reads as it did. -/
def fnWedSpec : ChangeSpec := { name := "fnWed", fn := fun _ => fun
  | [d] => { results := [.lit (.bool true)], args := [d] }
  | _ => none }
def fnWedRow : OpenClaim := { program := "ytikfeeaapenplaa", sum := "1ca1b91c9084de6d7538975a834da13776547f8aa0724d730024ab1ff04acd83", func := "loop.example/g03221/laws.FnWed", spec := "fnWed", unfollowed := true, recurses := true, apart := false }
def FnWedSaid : Prop := fnWedRow.holds Try.pinned (OpenSpec.ofChange fnWedSpec)

/-- ITS FALSE NEIGHBOUR: 'it returns false'. Refute it at one input. -/
def fnWedWrong : ChangeSpec := { name := "fnWed", fn := fun _ => fun
  | [d] => { results := [.lit (.bool false)], args := [d] }
  | _ => none }
def FnWedWrongFalsely : Prop := fnWedRow.holds Try.pinned (OpenSpec.ofChange fnWedWrong)

/-- 'laws.FnKnown': WHATEVER THE INPUT: true; the input reads as it did. -/
def fnKnownSpec : ChangeSpec := { name := "fnKnown", fn := fun _ => fun
  | [d] => { results := [.lit (.bool true)], args := [d] }
  | _ => none }
def fnKnownRow : OpenClaim := { program := "ytikfeeaapenplaa", sum := "1ca1b91c9084de6d7538975a834da13776547f8aa0724d730024ab1ff04acd83", func := "loop.example/g03221/laws.FnKnown", spec := "fnKnown", inPlace := ["internal/reflectlite.ValueOf", "internal/reflectlite.Swapper", "(internal/reflectlite.Value).Len"], unfollowed := true, recurses := true, apart := false }
def FnKnownSaid : Prop := fnKnownRow.holds Try.pinned (OpenSpec.ofChange fnKnownSpec)

/-- ITS FALSE NEIGHBOUR: 'it returns false'. Refute it at one input. -/
def fnKnownWrong : ChangeSpec := { name := "fnKnown", fn := fun _ => fun
  | [d] => { results := [.lit (.bool false)], args := [d] }
  | _ => none }
def FnKnownWrongFalsely : Prop := fnKnownRow.holds Try.pinned (OpenSpec.ofChange fnKnownWrong)

/-- 'laws.FnHolders': WHATEVER THE INPUT: true; the input reads as it did. -/
def fnHoldersSpec : ChangeSpec := { name := "fnHolders", fn := fun _ => fun
  | [d] => { results := [.lit (.bool true)], args := [d] }
  | _ => none }
def fnHoldersRow : OpenClaim := { program := "ytikfeeaapenplaa", sum := "1ca1b91c9084de6d7538975a834da13776547f8aa0724d730024ab1ff04acd83", func := "loop.example/g03221/laws.FnHolders", spec := "fnHolders", inPlace := ["internal/reflectlite.ValueOf", "internal/reflectlite.Swapper", "(internal/reflectlite.Value).Len"], unfollowed := true, recurses := true, apart := false }
def FnHoldersSaid : Prop := fnHoldersRow.holds Try.pinned (OpenSpec.ofChange fnHoldersSpec)

/-- ITS FALSE NEIGHBOUR: 'it returns false'. Refute it at one input. -/
def fnHoldersWrong : ChangeSpec := { name := "fnHolders", fn := fun _ => fun
  | [d] => { results := [.lit (.bool false)], args := [d] }
  | _ => none }
def FnHoldersWrongFalsely : Prop := fnHoldersRow.holds Try.pinned (OpenSpec.ofChange fnHoldersWrong)

/- THE SECOND FORM. 'bulk': how many values and letters a reading holds, each counted each time it is reached (what is shared counts as often as it is met; a slice's spare places count too). A statement '..UptoSaid' is the law's where the arguments, and the package variables that the reading takes, are together of bulk at most 1048576: NARROWER than '..Said'. Prove '..Said' where nothing that the law and all that it calls make is longer than what came in: it says more and counts as full. Else prove '..UptoSaid'. A law counts once. -/
mutual
def uptoBulk {H : Type} : DataW H → Nat
  | .lit (.string bytes) => bytes.length + 1
  | .lit _ => 1
  | .nil => 1
  | .ptr d => uptoBulk d + 1
  | .slice elems spare => uptoBulkAll elems + uptoBulkAll spare + 1
  | .agg parts => uptoBulkAll parts + 1
  | .iface _ d => uptoBulk d + 1
  | .map entries => uptoBulkEntries entries + 1
  | .held _ => 1
def uptoBulkAll {H : Type} : List (DataW H) → Nat
  | [] => 0
  | d :: r => uptoBulk d + uptoBulkAll r
def uptoBulkEntries {H : Type} : List (Lit × DataW H) → Nat
  | [] => 0
  | x :: r => uptoBulkEntry x + uptoBulkEntries r
def uptoBulkEntry {H : Type} : Lit × DataW H → Nat
  | (.string bytes, d) => bytes.length + uptoBulk d + 1
  | (_, d) => uptoBulk d + 1
 end
def uptoSmall : (H : Type) → List (DataW H) → Bool := fun _ ds => decide (uptoBulkAll ds ≤ 1048576)
def OpenSpec.upto (s : _root_.Go.ChangeSpec) : _root_.Go.OpenSpec := { _root_.Go.OpenSpec.ofChange s with cond := some uptoSmall }

/-- 'laws.FnStricter', WHERE WHAT IT READS IS OF BULK AT MOST 1048576: true; the input reads as it did. -/
def fnStricterUptoRow : OpenClaim := { program := "ytikfeeaapenplaa", sum := "1ca1b91c9084de6d7538975a834da13776547f8aa0724d730024ab1ff04acd83", func := "loop.example/g03221/laws.FnStricter", spec := "fnStricter", unfollowed := true, recurses := true, apart := false, narrowed := true }
def FnStricterUptoSaid : Prop := fnStricterUptoRow.holds Try.pinned (OpenSpec.upto fnStricterSpec)

/-- 'laws.FnSince', WHERE WHAT IT READS IS OF BULK AT MOST 1048576: true; the input reads as it did. -/
def fnSinceUptoRow : OpenClaim := { program := "ytikfeeaapenplaa", sum := "1ca1b91c9084de6d7538975a834da13776547f8aa0724d730024ab1ff04acd83", func := "loop.example/g03221/laws.FnSince", spec := "fnSince", unfollowed := true, recurses := true, apart := false, narrowed := true }
def FnSinceUptoSaid : Prop := fnSinceUptoRow.holds Try.pinned (OpenSpec.upto fnSinceSpec)

/-- 'laws.FnWeddings', WHERE WHAT IT READS IS OF BULK AT MOST 1048576: true; the input reads as it did. -/
def fnWeddingsUptoRow : OpenClaim := { program := "ytikfeeaapenplaa", sum := "1ca1b91c9084de6d7538975a834da13776547f8aa0724d730024ab1ff04acd83", func := "loop.example/g03221/laws.FnWeddings", spec := "fnWeddings", unfollowed := true, recurses := true, apart := false, narrowed := true }
def FnWeddingsUptoSaid : Prop := fnWeddingsUptoRow.holds Try.pinned (OpenSpec.upto fnWeddingsSpec)

/-- 'laws.FnWed', WHERE WHAT IT READS IS OF BULK AT MOST 1048576: true; the input reads as it did. -/
def fnWedUptoRow : OpenClaim := { program := "ytikfeeaapenplaa", sum := "1ca1b91c9084de6d7538975a834da13776547f8aa0724d730024ab1ff04acd83", func := "loop.example/g03221/laws.FnWed", spec := "fnWed", unfollowed := true, recurses := true, apart := false, narrowed := true }
def FnWedUptoSaid : Prop := fnWedUptoRow.holds Try.pinned (OpenSpec.upto fnWedSpec)

/-- 'laws.FnKnown', WHERE WHAT IT READS IS OF BULK AT MOST 1048576: true; the input reads as it did. -/
def fnKnownUptoRow : OpenClaim := { program := "ytikfeeaapenplaa", sum := "1ca1b91c9084de6d7538975a834da13776547f8aa0724d730024ab1ff04acd83", func := "loop.example/g03221/laws.FnKnown", spec := "fnKnown", inPlace := ["internal/reflectlite.ValueOf", "internal/reflectlite.Swapper", "(internal/reflectlite.Value).Len"], unfollowed := true, recurses := true, apart := false, narrowed := true }
def FnKnownUptoSaid : Prop := fnKnownUptoRow.holds Try.pinned (OpenSpec.upto fnKnownSpec)

/-- 'laws.FnHolders', WHERE WHAT IT READS IS OF BULK AT MOST 1048576: true; the input reads as it did. -/
def fnHoldersUptoRow : OpenClaim := { program := "ytikfeeaapenplaa", sum := "1ca1b91c9084de6d7538975a834da13776547f8aa0724d730024ab1ff04acd83", func := "loop.example/g03221/laws.FnHolders", spec := "fnHolders", inPlace := ["internal/reflectlite.ValueOf", "internal/reflectlite.Swapper", "(internal/reflectlite.Value).Len"], unfollowed := true, recurses := true, apart := false, narrowed := true }
def FnHoldersUptoSaid : Prop := fnHoldersUptoRow.holds Try.pinned (OpenSpec.upto fnHoldersSpec)

end Rows
end Go.Proofs.Ytikfeeaapenplaa
