/-
  No cell of these rows narrows 'for every input' (looked for: loops, veiled, ifaces, maps, wideKeys, modest, calm, conditions, laid).
  DERIVED. THE GIVEN ROWS OF THIS SEAT. 6 by the template 'for every input the law returns true; each argument reads behind the call as it read before'; 0 by the template 'total and deterministic' (their statements: YtanpfncfphpddaaTotals.lean).
  GIVEN WITH THE SEED: the statements are not yours to turn. If you find one false, say at which input.
  Laid BY PROGRAM, IN A SANDBOX (cutbox-rows.mjs): the forced cells as the released guide's own fill.sh prints them over the translation fd715ba9f746ffd0… (all of the seat's roots in one cut). By AI agents, Wed Nov 11 2026. No macro, syntax, notation, axiom, sorry.
-/
import Derived.Test.YtanpfncfphpddaaChecked
import GoSem.Claim
import GoSem.ClaimJoined
import GoSem.ClaimMapViews
import Derived.JoinedTies
import Derived.KernelRfl
namespace Go.Proofs.Ytanpfncfphpddaa
/- THE CELL 'sum', in the pinned program and in every row, IS THE sha256 OF THE DUMP (.gsa) THAT YtanpfncfphpddaaProg.lean LOADS. Nothing in Lean hashes anything: it is a label: what it is worth is what the hold of that sum in a sandbox is worth. -/
noncomputable def Try.pinned : Pinned := { name := "ytanpfncfphpddaa", sum := "fd715ba9f746ffd024e5ae6d17d4837fd0039d9c8d529ebe71729be8219e07b4", checked := Try.checked }
namespace Rows
def none {H : Type} : Left H := { results := [], args := [] }

/-- 'laws.FnExactStepsUp': WHATEVER THE INPUT: true; the input reads as it did. -/
def fnExactStepsUpSpec : ChangeSpec := { name := "fnExactStepsUp", fn := fun _ => fun
  | [d1, d2, d3] => { results := [.lit (.bool true)], args := [d1, d2, d3] }
  | _ => none }
def fnExactStepsUpRow : OpenClaim := { program := "ytanpfncfphpddaa", sum := "fd715ba9f746ffd024e5ae6d17d4837fd0039d9c8d529ebe71729be8219e07b4", func := "loop.example/g03221/laws.FnExactStepsUp", spec := "fnExactStepsUp", plainKeys := false, apart := false }
def FnExactStepsUpSaid : Prop := fnExactStepsUpRow.holds Try.pinned (OpenSpec.ofChange fnExactStepsUpSpec)

/-- ITS FALSE NEIGHBOUR: 'it returns false'. Refute it at one input. -/
def fnExactStepsUpWrong : ChangeSpec := { name := "fnExactStepsUp", fn := fun _ => fun
  | [d1, d2, d3] => { results := [.lit (.bool false)], args := [d1, d2, d3] }
  | _ => none }
def FnExactStepsUpWrongFalsely : Prop := fnExactStepsUpRow.holds Try.pinned (OpenSpec.ofChange fnExactStepsUpWrong)

/-- 'laws.FnExactCanonDegree': WHATEVER THE INPUT: true; the input reads as it did. -/
def fnExactCanonDegreeSpec : ChangeSpec := { name := "fnExactCanonDegree", fn := fun _ => fun
  | [d1, d2, d3] => { results := [.lit (.bool true)], args := [d1, d2, d3] }
  | _ => none }
def fnExactCanonDegreeRow : OpenClaim := { program := "ytanpfncfphpddaa", sum := "fd715ba9f746ffd024e5ae6d17d4837fd0039d9c8d529ebe71729be8219e07b4", func := "loop.example/g03221/laws.FnExactCanonDegree", spec := "fnExactCanonDegree", plainKeys := false, apart := false }
def FnExactCanonDegreeSaid : Prop := fnExactCanonDegreeRow.holds Try.pinned (OpenSpec.ofChange fnExactCanonDegreeSpec)

/-- ITS FALSE NEIGHBOUR: 'it returns false'. Refute it at one input. -/
def fnExactCanonDegreeWrong : ChangeSpec := { name := "fnExactCanonDegree", fn := fun _ => fun
  | [d1, d2, d3] => { results := [.lit (.bool false)], args := [d1, d2, d3] }
  | _ => none }
def FnExactCanonDegreeWrongFalsely : Prop := fnExactCanonDegreeRow.holds Try.pinned (OpenSpec.ofChange fnExactCanonDegreeWrong)

/-- 'laws.FnExactKinship': WHATEVER THE INPUT: true; the input reads as it did. -/
def fnExactKinshipSpec : ChangeSpec := { name := "fnExactKinship", fn := fun _ => fun
  | [d1, d2, d3] => { results := [.lit (.bool true)], args := [d1, d2, d3] }
  | _ => none }
def fnExactKinshipRow : OpenClaim := { program := "ytanpfncfphpddaa", sum := "fd715ba9f746ffd024e5ae6d17d4837fd0039d9c8d529ebe71729be8219e07b4", func := "loop.example/g03221/laws.FnExactKinship", spec := "fnExactKinship", recurses := true, plainKeys := false, apart := false }
def FnExactKinshipSaid : Prop := fnExactKinshipRow.holds Try.pinned (OpenSpec.ofChange fnExactKinshipSpec)

/-- ITS FALSE NEIGHBOUR: 'it returns false'. Refute it at one input. -/
def fnExactKinshipWrong : ChangeSpec := { name := "fnExactKinship", fn := fun _ => fun
  | [d1, d2, d3] => { results := [.lit (.bool false)], args := [d1, d2, d3] }
  | _ => none }
def FnExactKinshipWrongFalsely : Prop := fnExactKinshipRow.holds Try.pinned (OpenSpec.ofChange fnExactKinshipWrong)

/-- 'laws.FnExactLinkOf': WHATEVER THE INPUT: true; the input reads as it did. -/
def fnExactLinkOfSpec : ChangeSpec := { name := "fnExactLinkOf", fn := fun _ => fun
  | [d1, d2, d3] => { results := [.lit (.bool true)], args := [d1, d2, d3] }
  | _ => none }
def fnExactLinkOfRow : OpenClaim := { program := "ytanpfncfphpddaa", sum := "fd715ba9f746ffd024e5ae6d17d4837fd0039d9c8d529ebe71729be8219e07b4", func := "loop.example/g03221/laws.FnExactLinkOf", spec := "fnExactLinkOf", plainKeys := false, apart := false }
def FnExactLinkOfSaid : Prop := fnExactLinkOfRow.holds Try.pinned (OpenSpec.ofChange fnExactLinkOfSpec)

/-- ITS FALSE NEIGHBOUR: 'it returns false'. Refute it at one input. -/
def fnExactLinkOfWrong : ChangeSpec := { name := "fnExactLinkOf", fn := fun _ => fun
  | [d1, d2, d3] => { results := [.lit (.bool false)], args := [d1, d2, d3] }
  | _ => none }
def FnExactLinkOfWrongFalsely : Prop := fnExactLinkOfRow.holds Try.pinned (OpenSpec.ofChange fnExactLinkOfWrong)

/-- 'laws.FnExactInbreeding': WHATEVER THE INPUT: true; the input reads as it did. -/
def fnExactInbreedingSpec : ChangeSpec := { name := "fnExactInbreeding", fn := fun _ => fun
  | [d1, d2] => { results := [.lit (.bool true)], args := [d1, d2] }
  | _ => none }
def fnExactInbreedingRow : OpenClaim := { program := "ytanpfncfphpddaa", sum := "fd715ba9f746ffd024e5ae6d17d4837fd0039d9c8d529ebe71729be8219e07b4", func := "loop.example/g03221/laws.FnExactInbreeding", spec := "fnExactInbreeding", recurses := true, plainKeys := false, apart := false }
def FnExactInbreedingSaid : Prop := fnExactInbreedingRow.holds Try.pinned (OpenSpec.ofChange fnExactInbreedingSpec)

/-- ITS FALSE NEIGHBOUR: 'it returns false'. Refute it at one input. -/
def fnExactInbreedingWrong : ChangeSpec := { name := "fnExactInbreeding", fn := fun _ => fun
  | [d1, d2] => { results := [.lit (.bool false)], args := [d1, d2] }
  | _ => none }
def FnExactInbreedingWrongFalsely : Prop := fnExactInbreedingRow.holds Try.pinned (OpenSpec.ofChange fnExactInbreedingWrong)

/-- 'laws.FnExactCivilDegree': WHATEVER THE INPUT: true; the input reads as it did. -/
def fnExactCivilDegreeSpec : ChangeSpec := { name := "fnExactCivilDegree", fn := fun _ => fun
  | [d1, d2, d3] => { results := [.lit (.bool true)], args := [d1, d2, d3] }
  | _ => none }
def fnExactCivilDegreeRow : OpenClaim := { program := "ytanpfncfphpddaa", sum := "fd715ba9f746ffd024e5ae6d17d4837fd0039d9c8d529ebe71729be8219e07b4", func := "loop.example/g03221/laws.FnExactCivilDegree", spec := "fnExactCivilDegree", plainKeys := false, apart := false }
def FnExactCivilDegreeSaid : Prop := fnExactCivilDegreeRow.holds Try.pinned (OpenSpec.ofChange fnExactCivilDegreeSpec)

/-- ITS FALSE NEIGHBOUR: 'it returns false'. Refute it at one input. -/
def fnExactCivilDegreeWrong : ChangeSpec := { name := "fnExactCivilDegree", fn := fun _ => fun
  | [d1, d2, d3] => { results := [.lit (.bool false)], args := [d1, d2, d3] }
  | _ => none }
def FnExactCivilDegreeWrongFalsely : Prop := fnExactCivilDegreeRow.holds Try.pinned (OpenSpec.ofChange fnExactCivilDegreeWrong)

/- THE SECOND FORM. 'bulk': how many values and letters a reading holds, each counted each time it is reached (what is shared counts as often as it is met; a slice's spare places count too). A statement '..UptoSaid' is the law's where the arguments, and the package variables that the reading takes, are together of bulk at most 1048576: NARROWER than '..Said'. Prove '..Said' where nothing that the law and all that it calls make is longer than what came in: it says more and counts as full. Else prove '..UptoSaid'. A law counts once. -/
mutual
def uptoBulk {H : Type} : DataW H → Nat
  | .lit (.string bytes) => bytes.length + 1
  | .lit _ => 1
  | .nil => 1
  | .ptr d => uptoBulk d + 1
  | .slice elems spare => uptoBulkAll elems + uptoBulkAll spare + 1
  | .agg parts => uptoBulkAll parts + 1
  | .iface _ d => uptoBulk d + 1
  | .map entries => uptoBulkEntries entries + 1
  | .held _ => 1
def uptoBulkAll {H : Type} : List (DataW H) → Nat
  | [] => 0
  | d :: r => uptoBulk d + uptoBulkAll r
def uptoBulkEntries {H : Type} : List (Lit × DataW H) → Nat
  | [] => 0
  | x :: r => uptoBulkEntry x + uptoBulkEntries r
def uptoBulkEntry {H : Type} : Lit × DataW H → Nat
  | (.string bytes, d) => bytes.length + uptoBulk d + 1
  | (_, d) => uptoBulk d + 1
 end
def uptoSmall : (H : Type) → List (DataW H) → Bool := fun _ ds => decide (uptoBulkAll ds ≤ 1048576)
def OpenSpec.upto (s : _root_.Go.ChangeSpec) : _root_.Go.OpenSpec := { _root_.Go.OpenSpec.ofChange s with cond := some uptoSmall }

/-- 'laws.FnExactStepsUp', WHERE WHAT IT READS IS OF BULK AT MOST 1048576: true; the input reads as it did. -/
def fnExactStepsUpUptoRow : OpenClaim := { program := "ytanpfncfphpddaa", sum := "fd715ba9f746ffd024e5ae6d17d4837fd0039d9c8d529ebe71729be8219e07b4", func := "loop.example/g03221/laws.FnExactStepsUp", spec := "fnExactStepsUp", plainKeys := false, apart := false, narrowed := true }
def FnExactStepsUpUptoSaid : Prop := fnExactStepsUpUptoRow.holds Try.pinned (OpenSpec.upto fnExactStepsUpSpec)

/-- 'laws.FnExactCanonDegree', WHERE WHAT IT READS IS OF BULK AT MOST 1048576: true; the input reads as it did. -/
def fnExactCanonDegreeUptoRow : OpenClaim := { program := "ytanpfncfphpddaa", sum := "fd715ba9f746ffd024e5ae6d17d4837fd0039d9c8d529ebe71729be8219e07b4", func := "loop.example/g03221/laws.FnExactCanonDegree", spec := "fnExactCanonDegree", plainKeys := false, apart := false, narrowed := true }
def FnExactCanonDegreeUptoSaid : Prop := fnExactCanonDegreeUptoRow.holds Try.pinned (OpenSpec.upto fnExactCanonDegreeSpec)

/-- 'laws.FnExactKinship', WHERE WHAT IT READS IS OF BULK AT MOST 1048576: true; the input reads as it did. -/
def fnExactKinshipUptoRow : OpenClaim := { program := "ytanpfncfphpddaa", sum := "fd715ba9f746ffd024e5ae6d17d4837fd0039d9c8d529ebe71729be8219e07b4", func := "loop.example/g03221/laws.FnExactKinship", spec := "fnExactKinship", recurses := true, plainKeys := false, apart := false, narrowed := true }
def FnExactKinshipUptoSaid : Prop := fnExactKinshipUptoRow.holds Try.pinned (OpenSpec.upto fnExactKinshipSpec)

/-- 'laws.FnExactLinkOf', WHERE WHAT IT READS IS OF BULK AT MOST 1048576: true; the input reads as it did. -/
def fnExactLinkOfUptoRow : OpenClaim := { program := "ytanpfncfphpddaa", sum := "fd715ba9f746ffd024e5ae6d17d4837fd0039d9c8d529ebe71729be8219e07b4", func := "loop.example/g03221/laws.FnExactLinkOf", spec := "fnExactLinkOf", plainKeys := false, apart := false, narrowed := true }
def FnExactLinkOfUptoSaid : Prop := fnExactLinkOfUptoRow.holds Try.pinned (OpenSpec.upto fnExactLinkOfSpec)

/-- 'laws.FnExactInbreeding', WHERE WHAT IT READS IS OF BULK AT MOST 1048576: true; the input reads as it did. -/
def fnExactInbreedingUptoRow : OpenClaim := { program := "ytanpfncfphpddaa", sum := "fd715ba9f746ffd024e5ae6d17d4837fd0039d9c8d529ebe71729be8219e07b4", func := "loop.example/g03221/laws.FnExactInbreeding", spec := "fnExactInbreeding", recurses := true, plainKeys := false, apart := false, narrowed := true }
def FnExactInbreedingUptoSaid : Prop := fnExactInbreedingUptoRow.holds Try.pinned (OpenSpec.upto fnExactInbreedingSpec)

/-- 'laws.FnExactCivilDegree', WHERE WHAT IT READS IS OF BULK AT MOST 1048576: true; the input reads as it did. -/
def fnExactCivilDegreeUptoRow : OpenClaim := { program := "ytanpfncfphpddaa", sum := "fd715ba9f746ffd024e5ae6d17d4837fd0039d9c8d529ebe71729be8219e07b4", func := "loop.example/g03221/laws.FnExactCivilDegree", spec := "fnExactCivilDegree", plainKeys := false, apart := false, narrowed := true }
def FnExactCivilDegreeUptoSaid : Prop := fnExactCivilDegreeUptoRow.holds Try.pinned (OpenSpec.upto fnExactCivilDegreeSpec)

end Rows
end Go.Proofs.Ytanpfncfphpddaa
