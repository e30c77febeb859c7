/-
  NARROWER THAN 'FOR EVERY INPUT', by the rows' own cells (each row's printed sentence says how): FnExactFormatCustom: laid · FnExactParseCustom: laid.
  DERIVED. THE GIVEN ROWS OF THIS SEAT. 2 by the template 'for every input the law returns true; each argument reads behind the call as it read before'; 0 by the template 'total and deterministic' (their statements: YtmefknjcgdbceaaDoorTotals.lean).
  GIVEN WITH THE SEED: the statements are not yours to turn. If you find one false, say at which input.
  Laid BY PROGRAM, IN A SANDBOX (cutbox-rows.mjs): the forced cells as the released guide's own fill.sh prints them over the translation 013909bb746ebd24… (all of the seat's roots in one cut). By AI agents, Wed Nov 11 2026. No macro, syntax, notation, axiom, sorry.
-/
import Derived.Test.YtmefknjcgdbceaaDoorChecked
import GoSem.Claim
import GoSem.ClaimJoined
import GoSem.ClaimMapViews
import Derived.JoinedTies
import Derived.KernelRfl
namespace Go.Proofs.YtmefknjcgdbceaaDoor
/- THE CELL 'sum', in the pinned program and in every row, IS THE sha256 OF THE DUMP (.gsa) THAT YtmefknjcgdbceaaDoorProg.lean LOADS. Nothing in Lean hashes anything: it is a label: what it is worth is what the hold of that sum in a sandbox is worth. -/
noncomputable def Tryd.pinned : Pinned := { name := "ytmefknjcgdbceaadoor", sum := "013909bb746ebd24b7ee39cf6b641718a36cedc01e83f5c6df1578d41e8b93ad", checked := Tryd.checked }
namespace Rows
def none {H : Type} : Left H := { results := [], args := [] }

/- WHAT THE LISTED PACKAGE-LEVEL VARIABLES READ AS WHEN THE CALL BEGINS. Each datum BY PROGRAM (the guide's laid-datum.mjs) off the statement by which the dump's own 'gosem.cut.vars' lays the variable. In a bare row this is a premise. The card (YtmefknjcgdbceaaDoorCards.lean) ties it to the program's text. -/
def laid_loop_example_g03221_impl_preferWords {H : Type} : DataW H := .agg [.lit (.string [97, 110, 121]), .lit (.string [109, 101, 110]), .lit (.string [119, 111, 109, 101, 110]), .lit (.string [111, 110, 108, 121, 32, 109, 101, 110]), .lit (.string [111, 110, 108, 121, 32, 119, 111, 109, 101, 110])]

/-- 'laws.FnExactFormatCustom': WHATEVER THE INPUT: true; the input reads as it did. -/
def fnExactFormatCustomSpec : ChangeSpec := { name := "fnExactFormatCustom", vars := ["loop.example/g03221/impl.preferWords"], fn := fun _ => fun
  | [d, g1] => { results := [.lit (.bool true)], args := [d], vars := [g1] }
  | _ => none }
def fnExactFormatCustomRow : OpenClaim := { program := "ytmefknjcgdbceaadoor", sum := "013909bb746ebd24b7ee39cf6b641718a36cedc01e83f5c6df1578d41e8b93ad", func := "loop.example/g03221/laws.FnExactFormatCustom", spec := "fnExactFormatCustom", named := ["loop.example/g03221/impl.preferWords"], apart := false, laid := [("loop.example/g03221/impl.preferWords", laid_loop_example_g03221_impl_preferWords)] }
def FnExactFormatCustomSaid : Prop := fnExactFormatCustomRow.holds Tryd.pinned (OpenSpec.ofChange fnExactFormatCustomSpec)

/-- ITS FALSE NEIGHBOUR: 'it returns false'. Refute it at one input. -/
def fnExactFormatCustomWrong : ChangeSpec := { name := "fnExactFormatCustom", vars := ["loop.example/g03221/impl.preferWords"], fn := fun _ => fun
  | [d, g1] => { results := [.lit (.bool false)], args := [d], vars := [g1] }
  | _ => none }
def FnExactFormatCustomWrongFalsely : Prop := fnExactFormatCustomRow.holds Tryd.pinned (OpenSpec.ofChange fnExactFormatCustomWrong)

/-- 'laws.FnExactParseCustom': WHATEVER THE INPUT: true; the input reads as it did. -/
def fnExactParseCustomSpec : ChangeSpec := { name := "fnExactParseCustom", vars := ["loop.example/g03221/impl.preferWords"], fn := fun _ => fun
  | [d, g1] => { results := [.lit (.bool true)], args := [d], vars := [g1] }
  | _ => none }
def fnExactParseCustomRow : OpenClaim := { program := "ytmefknjcgdbceaadoor", sum := "013909bb746ebd24b7ee39cf6b641718a36cedc01e83f5c6df1578d41e8b93ad", func := "loop.example/g03221/laws.FnExactParseCustom", spec := "fnExactParseCustom", named := ["loop.example/g03221/impl.preferWords"], apart := false, laid := [("loop.example/g03221/impl.preferWords", laid_loop_example_g03221_impl_preferWords)] }
def FnExactParseCustomSaid : Prop := fnExactParseCustomRow.holds Tryd.pinned (OpenSpec.ofChange fnExactParseCustomSpec)

/-- ITS FALSE NEIGHBOUR: 'it returns false'. Refute it at one input. -/
def fnExactParseCustomWrong : ChangeSpec := { name := "fnExactParseCustom", vars := ["loop.example/g03221/impl.preferWords"], fn := fun _ => fun
  | [d, g1] => { results := [.lit (.bool false)], args := [d], vars := [g1] }
  | _ => none }
def FnExactParseCustomWrongFalsely : Prop := fnExactParseCustomRow.holds Tryd.pinned (OpenSpec.ofChange fnExactParseCustomWrong)

/- THE SECOND FORM. 'bulk': how many values and letters a reading holds, each counted each time it is reached (what is shared counts as often as it is met; a slice's spare places count too). A statement '..UptoSaid' is the law's where the arguments, and the package variables that the reading takes, are together of bulk at most 1048576: NARROWER than '..Said'. Prove '..Said' where nothing that the law and all that it calls make is longer than what came in: it says more and counts as full. Else prove '..UptoSaid'. A law counts once. -/
mutual
def uptoBulk {H : Type} : DataW H → Nat
  | .lit (.string bytes) => bytes.length + 1
  | .lit _ => 1
  | .nil => 1
  | .ptr d => uptoBulk d + 1
  | .slice elems spare => uptoBulkAll elems + uptoBulkAll spare + 1
  | .agg parts => uptoBulkAll parts + 1
  | .iface _ d => uptoBulk d + 1
  | .map entries => uptoBulkEntries entries + 1
  | .held _ => 1
def uptoBulkAll {H : Type} : List (DataW H) → Nat
  | [] => 0
  | d :: r => uptoBulk d + uptoBulkAll r
def uptoBulkEntries {H : Type} : List (Lit × DataW H) → Nat
  | [] => 0
  | x :: r => uptoBulkEntry x + uptoBulkEntries r
def uptoBulkEntry {H : Type} : Lit × DataW H → Nat
  | (.string bytes, d) => bytes.length + uptoBulk d + 1
  | (_, d) => uptoBulk d + 1
 end
def uptoSmall : (H : Type) → List (DataW H) → Bool := fun _ ds => decide (uptoBulkAll ds ≤ 1048576)
def OpenSpec.upto (s : _root_.Go.ChangeSpec) : _root_.Go.OpenSpec := { _root_.Go.OpenSpec.ofChange s with cond := some uptoSmall }

/-- 'laws.FnExactFormatCustom', WHERE WHAT IT READS IS OF BULK AT MOST 1048576: true; the input reads as it did. -/
def fnExactFormatCustomUptoRow : OpenClaim := { program := "ytmefknjcgdbceaadoor", sum := "013909bb746ebd24b7ee39cf6b641718a36cedc01e83f5c6df1578d41e8b93ad", func := "loop.example/g03221/laws.FnExactFormatCustom", spec := "fnExactFormatCustom", named := ["loop.example/g03221/impl.preferWords"], apart := false, laid := [("loop.example/g03221/impl.preferWords", laid_loop_example_g03221_impl_preferWords)], narrowed := true }
def FnExactFormatCustomUptoSaid : Prop := fnExactFormatCustomUptoRow.holds Tryd.pinned (OpenSpec.upto fnExactFormatCustomSpec)

/-- 'laws.FnExactParseCustom', WHERE WHAT IT READS IS OF BULK AT MOST 1048576: true; the input reads as it did. -/
def fnExactParseCustomUptoRow : OpenClaim := { program := "ytmefknjcgdbceaadoor", sum := "013909bb746ebd24b7ee39cf6b641718a36cedc01e83f5c6df1578d41e8b93ad", func := "loop.example/g03221/laws.FnExactParseCustom", spec := "fnExactParseCustom", named := ["loop.example/g03221/impl.preferWords"], apart := false, laid := [("loop.example/g03221/impl.preferWords", laid_loop_example_g03221_impl_preferWords)], narrowed := true }
def FnExactParseCustomUptoSaid : Prop := fnExactParseCustomUptoRow.holds Tryd.pinned (OpenSpec.upto fnExactParseCustomSpec)

end Rows
end Go.Proofs.YtmefknjcgdbceaaDoor
