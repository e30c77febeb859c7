/-
  No cell of these rows narrows 'for every input' (looked for: loops, veiled, ifaces, maps, wideKeys, modest, calm, conditions, laid).
  DERIVED. THE GIVEN ROWS OF THIS SEAT. 3 by the template 'for every input the law returns true; each argument reads behind the call as it read before'; 0 by the template 'total and deterministic' (their statements: YtaageiiodlfeiaaTotals.lean).
  GIVEN WITH THE SEED: the statements are not yours to turn. If you find one false, say at which input.
  Laid BY PROGRAM, IN A SANDBOX (cutbox-rows.mjs): the forced cells as the released guide's own fill.sh prints them over the translation e05a7153073134b7… (all of the seat's roots in one cut). By AI agents, Wed Nov 11 2026. No macro, syntax, notation, axiom, sorry.
-/
import Derived.Test.YtaageiiodlfeiaaChecked
import GoSem.Claim
import GoSem.ClaimJoined
import GoSem.ClaimMapViews
import Derived.JoinedTies
import Derived.KernelRfl
namespace Go.Proofs.Ytaageiiodlfeiaa
/- THE CELL 'sum', in the pinned program and in every row, IS THE sha256 OF THE DUMP (.gsa) THAT YtaageiiodlfeiaaProg.lean LOADS. Nothing in Lean hashes anything: it is a label: what it is worth is what the hold of that sum in a sandbox is worth. -/
noncomputable def Try.pinned : Pinned := { name := "ytaageiiodlfeiaa", sum := "e05a7153073134b73a80f4de9e78c05d7f2c9478b81c6ed2b7a6fbe2ff3c3836", checked := Try.checked }
namespace Rows
def none {H : Type} : Left H := { results := [], args := [] }

/-- 'laws.FnExactNewRegister': WHATEVER THE INPUT: true; the input reads as it did. -/
def fnExactNewRegisterSpec : ChangeSpec := { name := "fnExactNewRegister", fn := fun _ => fun
  | [] => { results := [.lit (.bool true)], args := [] }
  | _ => none }
def fnExactNewRegisterRow : OpenClaim := { program := "ytaageiiodlfeiaa", sum := "e05a7153073134b73a80f4de9e78c05d7f2c9478b81c6ed2b7a6fbe2ff3c3836", func := "loop.example/g03221/laws.FnExactNewRegister", spec := "fnExactNewRegister", inPlace := ["internal/bytealg.IndexByteString", "internal/bytealg.IndexString"], named := ["internal/bytealg.MaxLen"], plainKeys := false, apart := false }
def FnExactNewRegisterSaid : Prop := fnExactNewRegisterRow.holds Try.pinned (OpenSpec.ofChange fnExactNewRegisterSpec)

/-- ITS FALSE NEIGHBOUR: 'it returns false'. Refute it at one input. -/
def fnExactNewRegisterWrong : ChangeSpec := { name := "fnExactNewRegister", fn := fun _ => fun
  | [] => { results := [.lit (.bool false)], args := [] }
  | _ => none }
def FnExactNewRegisterWrongFalsely : Prop := fnExactNewRegisterRow.holds Try.pinned (OpenSpec.ofChange fnExactNewRegisterWrong)

/-- 'laws.FnPrescribed': WHATEVER THE INPUT: true; the input reads as it did. -/
def fnPrescribedSpec : ChangeSpec := { name := "fnPrescribed", fn := fun _ => fun
  | [d] => { results := [.lit (.bool true)], args := [d] }
  | _ => none }
def fnPrescribedRow : OpenClaim := { program := "ytaageiiodlfeiaa", sum := "e05a7153073134b73a80f4de9e78c05d7f2c9478b81c6ed2b7a6fbe2ff3c3836", func := "loop.example/g03221/laws.FnPrescribed", spec := "fnPrescribed", unfollowed := true, recurses := true, plainKeys := false, apart := false }
def FnPrescribedSaid : Prop := fnPrescribedRow.holds Try.pinned (OpenSpec.ofChange fnPrescribedSpec)

/-- ITS FALSE NEIGHBOUR: 'it returns false'. Refute it at one input. -/
def fnPrescribedWrong : ChangeSpec := { name := "fnPrescribed", fn := fun _ => fun
  | [d] => { results := [.lit (.bool false)], args := [d] }
  | _ => none }
def FnPrescribedWrongFalsely : Prop := fnPrescribedRow.holds Try.pinned (OpenSpec.ofChange fnPrescribedWrong)

/-- 'laws.FnWright': WHATEVER THE INPUT: true; the input reads as it did. -/
def fnWrightSpec : ChangeSpec := { name := "fnWright", fn := fun _ => fun
  | [d] => { results := [.lit (.bool true)], args := [d] }
  | _ => none }
def fnWrightRow : OpenClaim := { program := "ytaageiiodlfeiaa", sum := "e05a7153073134b73a80f4de9e78c05d7f2c9478b81c6ed2b7a6fbe2ff3c3836", func := "loop.example/g03221/laws.FnWright", spec := "fnWright", inPlace := ["internal/reflectlite.ValueOf", "internal/reflectlite.Swapper", "(internal/reflectlite.Value).Len"], unfollowed := true, recurses := true, plainKeys := false, apart := false }
def FnWrightSaid : Prop := fnWrightRow.holds Try.pinned (OpenSpec.ofChange fnWrightSpec)

/-- ITS FALSE NEIGHBOUR: 'it returns false'. Refute it at one input. -/
def fnWrightWrong : ChangeSpec := { name := "fnWright", fn := fun _ => fun
  | [d] => { results := [.lit (.bool false)], args := [d] }
  | _ => none }
def FnWrightWrongFalsely : Prop := fnWrightRow.holds Try.pinned (OpenSpec.ofChange fnWrightWrong)

/- THE SECOND FORM. 'bulk': how many values and letters a reading holds, each counted each time it is reached (what is shared counts as often as it is met; a slice's spare places count too). A statement '..UptoSaid' is the law's where the arguments, and the package variables that the reading takes, are together of bulk at most 1048576: NARROWER than '..Said'. Prove '..Said' where nothing that the law and all that it calls make is longer than what came in: it says more and counts as full. Else prove '..UptoSaid'. A law counts once. -/
mutual
def uptoBulk {H : Type} : DataW H → Nat
  | .lit (.string bytes) => bytes.length + 1
  | .lit _ => 1
  | .nil => 1
  | .ptr d => uptoBulk d + 1
  | .slice elems spare => uptoBulkAll elems + uptoBulkAll spare + 1
  | .agg parts => uptoBulkAll parts + 1
  | .iface _ d => uptoBulk d + 1
  | .map entries => uptoBulkEntries entries + 1
  | .held _ => 1
def uptoBulkAll {H : Type} : List (DataW H) → Nat
  | [] => 0
  | d :: r => uptoBulk d + uptoBulkAll r
def uptoBulkEntries {H : Type} : List (Lit × DataW H) → Nat
  | [] => 0
  | x :: r => uptoBulkEntry x + uptoBulkEntries r
def uptoBulkEntry {H : Type} : Lit × DataW H → Nat
  | (.string bytes, d) => bytes.length + uptoBulk d + 1
  | (_, d) => uptoBulk d + 1
 end
def uptoSmall : (H : Type) → List (DataW H) → Bool := fun _ ds => decide (uptoBulkAll ds ≤ 1048576)
def OpenSpec.upto (s : _root_.Go.ChangeSpec) : _root_.Go.OpenSpec := { _root_.Go.OpenSpec.ofChange s with cond := some uptoSmall }

/-- 'laws.FnExactNewRegister', WHERE WHAT IT READS IS OF BULK AT MOST 1048576: true; the input reads as it did. -/
def fnExactNewRegisterUptoRow : OpenClaim := { program := "ytaageiiodlfeiaa", sum := "e05a7153073134b73a80f4de9e78c05d7f2c9478b81c6ed2b7a6fbe2ff3c3836", func := "loop.example/g03221/laws.FnExactNewRegister", spec := "fnExactNewRegister", inPlace := ["internal/bytealg.IndexByteString", "internal/bytealg.IndexString"], named := ["internal/bytealg.MaxLen"], plainKeys := false, apart := false, narrowed := true }
def FnExactNewRegisterUptoSaid : Prop := fnExactNewRegisterUptoRow.holds Try.pinned (OpenSpec.upto fnExactNewRegisterSpec)

/-- 'laws.FnPrescribed', WHERE WHAT IT READS IS OF BULK AT MOST 1048576: true; the input reads as it did. -/
def fnPrescribedUptoRow : OpenClaim := { program := "ytaageiiodlfeiaa", sum := "e05a7153073134b73a80f4de9e78c05d7f2c9478b81c6ed2b7a6fbe2ff3c3836", func := "loop.example/g03221/laws.FnPrescribed", spec := "fnPrescribed", unfollowed := true, recurses := true, plainKeys := false, apart := false, narrowed := true }
def FnPrescribedUptoSaid : Prop := fnPrescribedUptoRow.holds Try.pinned (OpenSpec.upto fnPrescribedSpec)

/-- 'laws.FnWright', WHERE WHAT IT READS IS OF BULK AT MOST 1048576: true; the input reads as it did. -/
def fnWrightUptoRow : OpenClaim := { program := "ytaageiiodlfeiaa", sum := "e05a7153073134b73a80f4de9e78c05d7f2c9478b81c6ed2b7a6fbe2ff3c3836", func := "loop.example/g03221/laws.FnWright", spec := "fnWright", inPlace := ["internal/reflectlite.ValueOf", "internal/reflectlite.Swapper", "(internal/reflectlite.Value).Len"], unfollowed := true, recurses := true, plainKeys := false, apart := false, narrowed := true }
def FnWrightUptoSaid : Prop := fnWrightUptoRow.holds Try.pinned (OpenSpec.upto fnWrightSpec)

end Rows
end Go.Proofs.Ytaageiiodlfeiaa
