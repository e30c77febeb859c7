/-
  No cell of these rows narrows 'for every input' (looked for: loops, veiled, ifaces, maps, wideKeys, modest, calm, conditions, laid).
  DERIVED. THE GIVEN ROWS OF THIS SEAT. 6 by the template 'for every input the law returns true; each argument reads behind the call as it read before'; 0 by the template 'total and deterministic' (their statements: YtkkijpibajigfaaTotals.lean).
  GIVEN WITH THE SEED: the statements are not yours to turn. If you find one false, say at which input.
  Laid BY PROGRAM, IN A SANDBOX (cutbox-rows.mjs): the forced cells as the released guide's own fill.sh prints them over the translation 9c90e25a3c889a23… (all of the seat's roots in one cut). By AI agents, Wed Nov 11 2026. No macro, syntax, notation, axiom, sorry.
-/
import Derived.Test.YtkkijpibajigfaaChecked
import GoSem.Claim
import GoSem.ClaimJoined
import GoSem.ClaimMapViews
import Derived.JoinedTies
import Derived.KernelRfl
namespace Go.Proofs.Ytkkijpibajigfaa
/- THE CELL 'sum', in the pinned program and in every row, IS THE sha256 OF THE DUMP (.gsa) THAT YtkkijpibajigfaaProg.lean LOADS. Nothing in Lean hashes anything: it is a label: what it is worth is what the hold of that sum in a sandbox is worth. -/
noncomputable def Try.pinned : Pinned := { name := "ytkkijpibajigfaa", sum := "9c90e25a3c889a23fd6e572771c3df491f21c815f279a0afa7535e175b390829", checked := Try.checked }
namespace Rows
def none {H : Type} : Left H := { results := [], args := [] }

/-- 'laws.FnExactMostWeddings': WHATEVER THE INPUT: true; the input reads as it did. -/
def fnExactMostWeddingsSpec : ChangeSpec := { name := "fnExactMostWeddings", fn := fun _ => fun
  | [d1, d2, d3] => { results := [.lit (.bool true)], args := [d1, d2, d3] }
  | _ => none }
def fnExactMostWeddingsRow : OpenClaim := { program := "ytkkijpibajigfaa", sum := "9c90e25a3c889a23fd6e572771c3df491f21c815f279a0afa7535e175b390829", func := "loop.example/g03221/laws.FnExactMostWeddings", spec := "fnExactMostWeddings", unfollowed := true, recurses := true, plainKeys := false, apart := false }
def FnExactMostWeddingsSaid : Prop := fnExactMostWeddingsRow.holds Try.pinned (OpenSpec.ofChange fnExactMostWeddingsSpec)

/-- ITS FALSE NEIGHBOUR: 'it returns false'. Refute it at one input. -/
def fnExactMostWeddingsWrong : ChangeSpec := { name := "fnExactMostWeddings", fn := fun _ => fun
  | [d1, d2, d3] => { results := [.lit (.bool false)], args := [d1, d2, d3] }
  | _ => none }
def FnExactMostWeddingsWrongFalsely : Prop := fnExactMostWeddingsRow.holds Try.pinned (OpenSpec.ofChange fnExactMostWeddingsWrong)

/-- 'laws.FnStricter': WHATEVER THE INPUT: true; the input reads as it did. -/
def fnStricterSpec : ChangeSpec := { name := "fnStricter", fn := fun _ => fun
  | [d] => { results := [.lit (.bool true)], args := [d] }
  | _ => none }
def fnStricterRow : OpenClaim := { program := "ytkkijpibajigfaa", sum := "9c90e25a3c889a23fd6e572771c3df491f21c815f279a0afa7535e175b390829", func := "loop.example/g03221/laws.FnStricter", spec := "fnStricter", unfollowed := true, recurses := true, plainKeys := false, apart := false }
def FnStricterSaid : Prop := fnStricterRow.holds Try.pinned (OpenSpec.ofChange fnStricterSpec)

/-- ITS FALSE NEIGHBOUR: 'it returns false'. Refute it at one input. -/
def fnStricterWrong : ChangeSpec := { name := "fnStricter", fn := fun _ => fun
  | [d] => { results := [.lit (.bool false)], args := [d] }
  | _ => none }
def FnStricterWrongFalsely : Prop := fnStricterRow.holds Try.pinned (OpenSpec.ofChange fnStricterWrong)

/-- 'laws.FnWeddings': WHATEVER THE INPUT: true; the input reads as it did. -/
def fnWeddingsSpec : ChangeSpec := { name := "fnWeddings", fn := fun _ => fun
  | [d] => { results := [.lit (.bool true)], args := [d] }
  | _ => none }
def fnWeddingsRow : OpenClaim := { program := "ytkkijpibajigfaa", sum := "9c90e25a3c889a23fd6e572771c3df491f21c815f279a0afa7535e175b390829", func := "loop.example/g03221/laws.FnWeddings", spec := "fnWeddings", unfollowed := true, recurses := true, plainKeys := false, apart := false }
def FnWeddingsSaid : Prop := fnWeddingsRow.holds Try.pinned (OpenSpec.ofChange fnWeddingsSpec)

/-- ITS FALSE NEIGHBOUR: 'it returns false'. Refute it at one input. -/
def fnWeddingsWrong : ChangeSpec := { name := "fnWeddings", fn := fun _ => fun
  | [d] => { results := [.lit (.bool false)], args := [d] }
  | _ => none }
def FnWeddingsWrongFalsely : Prop := fnWeddingsRow.holds Try.pinned (OpenSpec.ofChange fnWeddingsWrong)

/-- 'laws.FnExactDescentLines': WHATEVER THE INPUT: true; the input reads as it did. -/
def fnExactDescentLinesSpec : ChangeSpec := { name := "fnExactDescentLines", fn := fun _ => fun
  | [d1, d2, d3] => { results := [.lit (.bool true)], args := [d1, d2, d3] }
  | _ => none }
def fnExactDescentLinesRow : OpenClaim := { program := "ytkkijpibajigfaa", sum := "9c90e25a3c889a23fd6e572771c3df491f21c815f279a0afa7535e175b390829", func := "loop.example/g03221/laws.FnExactDescentLines", spec := "fnExactDescentLines", inPlace := ["internal/reflectlite.ValueOf", "internal/reflectlite.Swapper", "(internal/reflectlite.Value).Len"], unfollowed := true, recurses := true, plainKeys := false, apart := false }
def FnExactDescentLinesSaid : Prop := fnExactDescentLinesRow.holds Try.pinned (OpenSpec.ofChange fnExactDescentLinesSpec)

/-- ITS FALSE NEIGHBOUR: 'it returns false'. Refute it at one input. -/
def fnExactDescentLinesWrong : ChangeSpec := { name := "fnExactDescentLines", fn := fun _ => fun
  | [d1, d2, d3] => { results := [.lit (.bool false)], args := [d1, d2, d3] }
  | _ => none }
def FnExactDescentLinesWrongFalsely : Prop := fnExactDescentLinesRow.holds Try.pinned (OpenSpec.ofChange fnExactDescentLinesWrong)

/-- 'laws.FnExactKinshipByLines': WHATEVER THE INPUT: true; the input reads as it did. -/
def fnExactKinshipByLinesSpec : ChangeSpec := { name := "fnExactKinshipByLines", fn := fun _ => fun
  | [d1, d2, d3] => { results := [.lit (.bool true)], args := [d1, d2, d3] }
  | _ => none }
def fnExactKinshipByLinesRow : OpenClaim := { program := "ytkkijpibajigfaa", sum := "9c90e25a3c889a23fd6e572771c3df491f21c815f279a0afa7535e175b390829", func := "loop.example/g03221/laws.FnExactKinshipByLines", spec := "fnExactKinshipByLines", inPlace := ["internal/reflectlite.ValueOf", "internal/reflectlite.Swapper", "(internal/reflectlite.Value).Len"], unfollowed := true, recurses := true, plainKeys := false, apart := false }
def FnExactKinshipByLinesSaid : Prop := fnExactKinshipByLinesRow.holds Try.pinned (OpenSpec.ofChange fnExactKinshipByLinesSpec)

/-- ITS FALSE NEIGHBOUR: 'it returns false'. Refute it at one input. -/
def fnExactKinshipByLinesWrong : ChangeSpec := { name := "fnExactKinshipByLines", fn := fun _ => fun
  | [d1, d2, d3] => { results := [.lit (.bool false)], args := [d1, d2, d3] }
  | _ => none }
def FnExactKinshipByLinesWrongFalsely : Prop := fnExactKinshipByLinesRow.holds Try.pinned (OpenSpec.ofChange fnExactKinshipByLinesWrong)

/-- 'laws.FnDescents': WHATEVER THE INPUT: true; the input reads as it did. -/
def fnDescentsSpec : ChangeSpec := { name := "fnDescents", fn := fun _ => fun
  | [d] => { results := [.lit (.bool true)], args := [d] }
  | _ => none }
def fnDescentsRow : OpenClaim := { program := "ytkkijpibajigfaa", sum := "9c90e25a3c889a23fd6e572771c3df491f21c815f279a0afa7535e175b390829", func := "loop.example/g03221/laws.FnDescents", spec := "fnDescents", inPlace := ["internal/reflectlite.ValueOf", "internal/reflectlite.Swapper", "(internal/reflectlite.Value).Len"], unfollowed := true, recurses := true, plainKeys := false, apart := false }
def FnDescentsSaid : Prop := fnDescentsRow.holds Try.pinned (OpenSpec.ofChange fnDescentsSpec)

/-- ITS FALSE NEIGHBOUR: 'it returns false'. Refute it at one input. -/
def fnDescentsWrong : ChangeSpec := { name := "fnDescents", fn := fun _ => fun
  | [d] => { results := [.lit (.bool false)], args := [d] }
  | _ => none }
def FnDescentsWrongFalsely : Prop := fnDescentsRow.holds Try.pinned (OpenSpec.ofChange fnDescentsWrong)

/- THE SECOND FORM. 'bulk': how many values and letters a reading holds, each counted each time it is reached (what is shared counts as often as it is met; a slice's spare places count too). A statement '..UptoSaid' is the law's where the arguments, and the package variables that the reading takes, are together of bulk at most 1048576: NARROWER than '..Said'. Prove '..Said' where nothing that the law and all that it calls make is longer than what came in: it says more and counts as full. Else prove '..UptoSaid'. A law counts once. -/
mutual
def uptoBulk {H : Type} : DataW H → Nat
  | .lit (.string bytes) => bytes.length + 1
  | .lit _ => 1
  | .nil => 1
  | .ptr d => uptoBulk d + 1
  | .slice elems spare => uptoBulkAll elems + uptoBulkAll spare + 1
  | .agg parts => uptoBulkAll parts + 1
  | .iface _ d => uptoBulk d + 1
  | .map entries => uptoBulkEntries entries + 1
  | .held _ => 1
def uptoBulkAll {H : Type} : List (DataW H) → Nat
  | [] => 0
  | d :: r => uptoBulk d + uptoBulkAll r
def uptoBulkEntries {H : Type} : List (Lit × DataW H) → Nat
  | [] => 0
  | x :: r => uptoBulkEntry x + uptoBulkEntries r
def uptoBulkEntry {H : Type} : Lit × DataW H → Nat
  | (.string bytes, d) => bytes.length + uptoBulk d + 1
  | (_, d) => uptoBulk d + 1
 end
def uptoSmall : (H : Type) → List (DataW H) → Bool := fun _ ds => decide (uptoBulkAll ds ≤ 1048576)
def OpenSpec.upto (s : _root_.Go.ChangeSpec) : _root_.Go.OpenSpec := { _root_.Go.OpenSpec.ofChange s with cond := some uptoSmall }

/-- 'laws.FnExactMostWeddings', WHERE WHAT IT READS IS OF BULK AT MOST 1048576: true; the input reads as it did. -/
def fnExactMostWeddingsUptoRow : OpenClaim := { program := "ytkkijpibajigfaa", sum := "9c90e25a3c889a23fd6e572771c3df491f21c815f279a0afa7535e175b390829", func := "loop.example/g03221/laws.FnExactMostWeddings", spec := "fnExactMostWeddings", unfollowed := true, recurses := true, plainKeys := false, apart := false, narrowed := true }
def FnExactMostWeddingsUptoSaid : Prop := fnExactMostWeddingsUptoRow.holds Try.pinned (OpenSpec.upto fnExactMostWeddingsSpec)

/-- 'laws.FnStricter', WHERE WHAT IT READS IS OF BULK AT MOST 1048576: true; the input reads as it did. -/
def fnStricterUptoRow : OpenClaim := { program := "ytkkijpibajigfaa", sum := "9c90e25a3c889a23fd6e572771c3df491f21c815f279a0afa7535e175b390829", func := "loop.example/g03221/laws.FnStricter", spec := "fnStricter", unfollowed := true, recurses := true, plainKeys := false, apart := false, narrowed := true }
def FnStricterUptoSaid : Prop := fnStricterUptoRow.holds Try.pinned (OpenSpec.upto fnStricterSpec)

/-- 'laws.FnWeddings', WHERE WHAT IT READS IS OF BULK AT MOST 1048576: true; the input reads as it did. -/
def fnWeddingsUptoRow : OpenClaim := { program := "ytkkijpibajigfaa", sum := "9c90e25a3c889a23fd6e572771c3df491f21c815f279a0afa7535e175b390829", func := "loop.example/g03221/laws.FnWeddings", spec := "fnWeddings", unfollowed := true, recurses := true, plainKeys := false, apart := false, narrowed := true }
def FnWeddingsUptoSaid : Prop := fnWeddingsUptoRow.holds Try.pinned (OpenSpec.upto fnWeddingsSpec)

/-- 'laws.FnExactDescentLines', WHERE WHAT IT READS IS OF BULK AT MOST 1048576: true; the input reads as it did. -/
def fnExactDescentLinesUptoRow : OpenClaim := { program := "ytkkijpibajigfaa", sum := "9c90e25a3c889a23fd6e572771c3df491f21c815f279a0afa7535e175b390829", func := "loop.example/g03221/laws.FnExactDescentLines", spec := "fnExactDescentLines", inPlace := ["internal/reflectlite.ValueOf", "internal/reflectlite.Swapper", "(internal/reflectlite.Value).Len"], unfollowed := true, recurses := true, plainKeys := false, apart := false, narrowed := true }
def FnExactDescentLinesUptoSaid : Prop := fnExactDescentLinesUptoRow.holds Try.pinned (OpenSpec.upto fnExactDescentLinesSpec)

/-- 'laws.FnExactKinshipByLines', WHERE WHAT IT READS IS OF BULK AT MOST 1048576: true; the input reads as it did. -/
def fnExactKinshipByLinesUptoRow : OpenClaim := { program := "ytkkijpibajigfaa", sum := "9c90e25a3c889a23fd6e572771c3df491f21c815f279a0afa7535e175b390829", func := "loop.example/g03221/laws.FnExactKinshipByLines", spec := "fnExactKinshipByLines", inPlace := ["internal/reflectlite.ValueOf", "internal/reflectlite.Swapper", "(internal/reflectlite.Value).Len"], unfollowed := true, recurses := true, plainKeys := false, apart := false, narrowed := true }
def FnExactKinshipByLinesUptoSaid : Prop := fnExactKinshipByLinesUptoRow.holds Try.pinned (OpenSpec.upto fnExactKinshipByLinesSpec)

/-- 'laws.FnDescents', WHERE WHAT IT READS IS OF BULK AT MOST 1048576: true; the input reads as it did. -/
def fnDescentsUptoRow : OpenClaim := { program := "ytkkijpibajigfaa", sum := "9c90e25a3c889a23fd6e572771c3df491f21c815f279a0afa7535e175b390829", func := "loop.example/g03221/laws.FnDescents", spec := "fnDescents", inPlace := ["internal/reflectlite.ValueOf", "internal/reflectlite.Swapper", "(internal/reflectlite.Value).Len"], unfollowed := true, recurses := true, plainKeys := false, apart := false, narrowed := true }
def FnDescentsUptoSaid : Prop := fnDescentsUptoRow.holds Try.pinned (OpenSpec.upto fnDescentsSpec)

end Rows
end Go.Proofs.Ytkkijpibajigfaa
