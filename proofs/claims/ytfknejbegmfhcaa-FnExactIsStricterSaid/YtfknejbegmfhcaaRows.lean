/-
  No cell of these rows narrows 'for every input' (looked for: loops, veiled, ifaces, maps, wideKeys, modest, calm, conditions, laid).
  DERIVED. THE GIVEN ROWS OF THIS SEAT. 3 by the template 'for every input the law returns true; each argument reads behind the call as it read before'; 0 by the template 'total and deterministic' (their statements: YtfknejbegmfhcaaTotals.lean).
  GIVEN WITH THE SEED: the statements are not yours to turn. If you find one false, say at which input.
  Laid BY PROGRAM, IN A SANDBOX (cutbox-rows.mjs): the forced cells as the released guide's own fill.sh prints them over the translation 20df22f566b91542… (all of the seat's roots in one cut). By AI agents, Wed Nov 11 2026. No macro, syntax, notation, axiom, sorry.
-/
import Derived.Test.YtfknejbegmfhcaaChecked
import GoSem.Claim
import GoSem.ClaimJoined
import GoSem.ClaimMapViews
import Derived.JoinedTies
import Derived.KernelRfl
namespace Go.Proofs.Ytfknejbegmfhcaa
/- THE CELL 'sum', in the pinned program and in every row, IS THE sha256 OF THE DUMP (.gsa) THAT YtfknejbegmfhcaaProg.lean LOADS. Nothing in Lean hashes anything: it is a label: what it is worth is what the hold of that sum in a sandbox is worth. -/
noncomputable def Try.pinned : Pinned := { name := "ytfknejbegmfhcaa", sum := "20df22f566b91542c98391bd24620254ed9f94f03a78e1257e4d52a7f25f1566", checked := Try.checked }
namespace Rows
def none {H : Type} : Left H := { results := [], args := [] }

/-- 'laws.FnExactIsCustom': WHATEVER THE INPUT: true; the input reads as it did. -/
def fnExactIsCustomSpec : ChangeSpec := { name := "fnExactIsCustom", fn := fun _ => fun
  | [d] => { results := [.lit (.bool true)], args := [d] }
  | _ => none }
def fnExactIsCustomRow : OpenClaim := { program := "ytfknejbegmfhcaa", sum := "20df22f566b91542c98391bd24620254ed9f94f03a78e1257e4d52a7f25f1566", func := "loop.example/g03221/laws.FnExactIsCustom", spec := "fnExactIsCustom", apart := false }
def FnExactIsCustomSaid : Prop := fnExactIsCustomRow.holds Try.pinned (OpenSpec.ofChange fnExactIsCustomSpec)

/-- ITS FALSE NEIGHBOUR: 'it returns false'. Refute it at one input. -/
def fnExactIsCustomWrong : ChangeSpec := { name := "fnExactIsCustom", fn := fun _ => fun
  | [d] => { results := [.lit (.bool false)], args := [d] }
  | _ => none }
def FnExactIsCustomWrongFalsely : Prop := fnExactIsCustomRow.holds Try.pinned (OpenSpec.ofChange fnExactIsCustomWrong)

/-- 'laws.FnExactIsLaw': WHATEVER THE INPUT: true; the input reads as it did. -/
def fnExactIsLawSpec : ChangeSpec := { name := "fnExactIsLaw", fn := fun _ => fun
  | [d] => { results := [.lit (.bool true)], args := [d] }
  | _ => none }
def fnExactIsLawRow : OpenClaim := { program := "ytfknejbegmfhcaa", sum := "20df22f566b91542c98391bd24620254ed9f94f03a78e1257e4d52a7f25f1566", func := "loop.example/g03221/laws.FnExactIsLaw", spec := "fnExactIsLaw", unfollowed := true, recurses := true, apart := false }
def FnExactIsLawSaid : Prop := fnExactIsLawRow.holds Try.pinned (OpenSpec.ofChange fnExactIsLawSpec)

/-- ITS FALSE NEIGHBOUR: 'it returns false'. Refute it at one input. -/
def fnExactIsLawWrong : ChangeSpec := { name := "fnExactIsLaw", fn := fun _ => fun
  | [d] => { results := [.lit (.bool false)], args := [d] }
  | _ => none }
def FnExactIsLawWrongFalsely : Prop := fnExactIsLawRow.holds Try.pinned (OpenSpec.ofChange fnExactIsLawWrong)

/-- 'laws.FnExactIsStricter': WHATEVER THE INPUT: true; the input reads as it did. -/
def fnExactIsStricterSpec : ChangeSpec := { name := "fnExactIsStricter", fn := fun _ => fun
  | [d1, d2] => { results := [.lit (.bool true)], args := [d1, d2] }
  | _ => none }
def fnExactIsStricterRow : OpenClaim := { program := "ytfknejbegmfhcaa", sum := "20df22f566b91542c98391bd24620254ed9f94f03a78e1257e4d52a7f25f1566", func := "loop.example/g03221/laws.FnExactIsStricter", spec := "fnExactIsStricter", unfollowed := true, recurses := true, apart := false }
def FnExactIsStricterSaid : Prop := fnExactIsStricterRow.holds Try.pinned (OpenSpec.ofChange fnExactIsStricterSpec)

/-- ITS FALSE NEIGHBOUR: 'it returns false'. Refute it at one input. -/
def fnExactIsStricterWrong : ChangeSpec := { name := "fnExactIsStricter", fn := fun _ => fun
  | [d1, d2] => { results := [.lit (.bool false)], args := [d1, d2] }
  | _ => none }
def FnExactIsStricterWrongFalsely : Prop := fnExactIsStricterRow.holds Try.pinned (OpenSpec.ofChange fnExactIsStricterWrong)

/- THE SECOND FORM. 'bulk': how many values and letters a reading holds, each counted each time it is reached (what is shared counts as often as it is met; a slice's spare places count too). A statement '..UptoSaid' is the law's where the arguments, and the package variables that the reading takes, are together of bulk at most 1048576: NARROWER than '..Said'. Prove '..Said' where nothing that the law and all that it calls make is longer than what came in: it says more and counts as full. Else prove '..UptoSaid'. A law counts once. -/
mutual
def uptoBulk {H : Type} : DataW H → Nat
  | .lit (.string bytes) => bytes.length + 1
  | .lit _ => 1
  | .nil => 1
  | .ptr d => uptoBulk d + 1
  | .slice elems spare => uptoBulkAll elems + uptoBulkAll spare + 1
  | .agg parts => uptoBulkAll parts + 1
  | .iface _ d => uptoBulk d + 1
  | .map entries => uptoBulkEntries entries + 1
  | .held _ => 1
def uptoBulkAll {H : Type} : List (DataW H) → Nat
  | [] => 0
  | d :: r => uptoBulk d + uptoBulkAll r
def uptoBulkEntries {H : Type} : List (Lit × DataW H) → Nat
  | [] => 0
  | x :: r => uptoBulkEntry x + uptoBulkEntries r
def uptoBulkEntry {H : Type} : Lit × DataW H → Nat
  | (.string bytes, d) => bytes.length + uptoBulk d + 1
  | (_, d) => uptoBulk d + 1
 end
def uptoSmall : (H : Type) → List (DataW H) → Bool := fun _ ds => decide (uptoBulkAll ds ≤ 1048576)
def OpenSpec.upto (s : _root_.Go.ChangeSpec) : _root_.Go.OpenSpec := { _root_.Go.OpenSpec.ofChange s with cond := some uptoSmall }

/-- 'laws.FnExactIsCustom', WHERE WHAT IT READS IS OF BULK AT MOST 1048576: true; the input reads as it did. -/
def fnExactIsCustomUptoRow : OpenClaim := { program := "ytfknejbegmfhcaa", sum := "20df22f566b91542c98391bd24620254ed9f94f03a78e1257e4d52a7f25f1566", func := "loop.example/g03221/laws.FnExactIsCustom", spec := "fnExactIsCustom", apart := false, narrowed := true }
def FnExactIsCustomUptoSaid : Prop := fnExactIsCustomUptoRow.holds Try.pinned (OpenSpec.upto fnExactIsCustomSpec)

/-- 'laws.FnExactIsLaw', WHERE WHAT IT READS IS OF BULK AT MOST 1048576: true; the input reads as it did. -/
def fnExactIsLawUptoRow : OpenClaim := { program := "ytfknejbegmfhcaa", sum := "20df22f566b91542c98391bd24620254ed9f94f03a78e1257e4d52a7f25f1566", func := "loop.example/g03221/laws.FnExactIsLaw", spec := "fnExactIsLaw", unfollowed := true, recurses := true, apart := false, narrowed := true }
def FnExactIsLawUptoSaid : Prop := fnExactIsLawUptoRow.holds Try.pinned (OpenSpec.upto fnExactIsLawSpec)

/-- 'laws.FnExactIsStricter', WHERE WHAT IT READS IS OF BULK AT MOST 1048576: true; the input reads as it did. -/
def fnExactIsStricterUptoRow : OpenClaim := { program := "ytfknejbegmfhcaa", sum := "20df22f566b91542c98391bd24620254ed9f94f03a78e1257e4d52a7f25f1566", func := "loop.example/g03221/laws.FnExactIsStricter", spec := "fnExactIsStricter", unfollowed := true, recurses := true, apart := false, narrowed := true }
def FnExactIsStricterUptoSaid : Prop := fnExactIsStricterUptoRow.holds Try.pinned (OpenSpec.upto fnExactIsStricterSpec)

end Rows
end Go.Proofs.Ytfknejbegmfhcaa
