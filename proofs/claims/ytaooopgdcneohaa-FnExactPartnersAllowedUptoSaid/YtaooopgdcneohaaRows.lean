/-
  No cell of these rows narrows 'for every input' (looked for: loops, veiled, ifaces, maps, wideKeys, modest, calm, conditions, laid).
  DERIVED. THE GIVEN ROWS OF THIS SEAT. 6 by the template 'for every input the law returns true; each argument reads behind the call as it read before'; 0 by the template 'total and deterministic' (their statements: YtaooopgdcneohaaTotals.lean).
  GIVEN WITH THE SEED: the statements are not yours to turn. If you find one false, say at which input.
  Laid BY PROGRAM, IN A SANDBOX (cutbox-rows.mjs): the forced cells as the released guide's own fill.sh prints them over the translation 1a2a9201c7252d5b… (all of the seat's roots in one cut). By AI agents, Wed Nov 11 2026. No macro, syntax, notation, axiom, sorry.
-/
import Derived.Test.YtaooopgdcneohaaChecked
import GoSem.Claim
import GoSem.ClaimJoined
import GoSem.ClaimMapViews
import Derived.JoinedTies
import Derived.KernelRfl
namespace Go.Proofs.Ytaooopgdcneohaa
/- THE CELL 'sum', in the pinned program and in every row, IS THE sha256 OF THE DUMP (.gsa) THAT YtaooopgdcneohaaProg.lean LOADS. Nothing in Lean hashes anything: it is a label: what it is worth is what the hold of that sum in a sandbox is worth. -/
noncomputable def Try.pinned : Pinned := { name := "ytaooopgdcneohaa", sum := "1a2a9201c7252d5b4e865f996f23d34a67cfebc4ae3fc82b50514ad156b1217f", checked := Try.checked }
namespace Rows
def none {H : Type} : Left H := { results := [], args := [] }

/-- 'laws.FnExactKnownAt': WHATEVER THE INPUT: true; the input reads as it did. -/
def fnExactKnownAtSpec : ChangeSpec := { name := "fnExactKnownAt", fn := fun _ => fun
  | [d1, d2] => { results := [.lit (.bool true)], args := [d1, d2] }
  | _ => none }
def fnExactKnownAtRow : OpenClaim := { program := "ytaooopgdcneohaa", sum := "1a2a9201c7252d5b4e865f996f23d34a67cfebc4ae3fc82b50514ad156b1217f", func := "loop.example/g03221/laws.FnExactKnownAt", spec := "fnExactKnownAt", apart := false }
def FnExactKnownAtSaid : Prop := fnExactKnownAtRow.holds Try.pinned (OpenSpec.ofChange fnExactKnownAtSpec)

/-- ITS FALSE NEIGHBOUR: 'it returns false'. Refute it at one input. -/
def fnExactKnownAtWrong : ChangeSpec := { name := "fnExactKnownAt", fn := fun _ => fun
  | [d1, d2] => { results := [.lit (.bool false)], args := [d1, d2] }
  | _ => none }
def FnExactKnownAtWrongFalsely : Prop := fnExactKnownAtRow.holds Try.pinned (OpenSpec.ofChange fnExactKnownAtWrong)

/-- 'laws.FnExactClassPartners': WHATEVER THE INPUT: true; the input reads as it did. -/
def fnExactClassPartnersSpec : ChangeSpec := { name := "fnExactClassPartners", fn := fun _ => fun
  | [d1, d2, d3, d4] => { results := [.lit (.bool true)], args := [d1, d2, d3, d4] }
  | _ => none }
def fnExactClassPartnersRow : OpenClaim := { program := "ytaooopgdcneohaa", sum := "1a2a9201c7252d5b4e865f996f23d34a67cfebc4ae3fc82b50514ad156b1217f", func := "loop.example/g03221/laws.FnExactClassPartners", spec := "fnExactClassPartners", apart := false }
def FnExactClassPartnersSaid : Prop := fnExactClassPartnersRow.holds Try.pinned (OpenSpec.ofChange fnExactClassPartnersSpec)

/-- ITS FALSE NEIGHBOUR: 'it returns false'. Refute it at one input. -/
def fnExactClassPartnersWrong : ChangeSpec := { name := "fnExactClassPartners", fn := fun _ => fun
  | [d1, d2, d3, d4] => { results := [.lit (.bool false)], args := [d1, d2, d3, d4] }
  | _ => none }
def FnExactClassPartnersWrongFalsely : Prop := fnExactClassPartnersRow.holds Try.pinned (OpenSpec.ofChange fnExactClassPartnersWrong)

/-- 'laws.FnExactBuildFamily': WHATEVER THE INPUT: true; the input reads as it did. -/
def fnExactBuildFamilySpec : ChangeSpec := { name := "fnExactBuildFamily", fn := fun _ => fun
  | [d] => { results := [.lit (.bool true)], args := [d] }
  | _ => none }
def fnExactBuildFamilyRow : OpenClaim := { program := "ytaooopgdcneohaa", sum := "1a2a9201c7252d5b4e865f996f23d34a67cfebc4ae3fc82b50514ad156b1217f", func := "loop.example/g03221/laws.FnExactBuildFamily", spec := "fnExactBuildFamily", unfollowed := true, recurses := true, apart := false }
def FnExactBuildFamilySaid : Prop := fnExactBuildFamilyRow.holds Try.pinned (OpenSpec.ofChange fnExactBuildFamilySpec)

/-- ITS FALSE NEIGHBOUR: 'it returns false'. Refute it at one input. -/
def fnExactBuildFamilyWrong : ChangeSpec := { name := "fnExactBuildFamily", fn := fun _ => fun
  | [d] => { results := [.lit (.bool false)], args := [d] }
  | _ => none }
def FnExactBuildFamilyWrongFalsely : Prop := fnExactBuildFamilyRow.holds Try.pinned (OpenSpec.ofChange fnExactBuildFamilyWrong)

/-- 'laws.FnExactMayMarry': WHATEVER THE INPUT: true; the input reads as it did. -/
def fnExactMayMarrySpec : ChangeSpec := { name := "fnExactMayMarry", fn := fun _ => fun
  | [d1, d2, d3, d4, d5] => { results := [.lit (.bool true)], args := [d1, d2, d3, d4, d5] }
  | _ => none }
def fnExactMayMarryRow : OpenClaim := { program := "ytaooopgdcneohaa", sum := "1a2a9201c7252d5b4e865f996f23d34a67cfebc4ae3fc82b50514ad156b1217f", func := "loop.example/g03221/laws.FnExactMayMarry", spec := "fnExactMayMarry", unfollowed := true, recurses := true, apart := false }
def FnExactMayMarrySaid : Prop := fnExactMayMarryRow.holds Try.pinned (OpenSpec.ofChange fnExactMayMarrySpec)

/-- ITS FALSE NEIGHBOUR: 'it returns false'. Refute it at one input. -/
def fnExactMayMarryWrong : ChangeSpec := { name := "fnExactMayMarry", fn := fun _ => fun
  | [d1, d2, d3, d4, d5] => { results := [.lit (.bool false)], args := [d1, d2, d3, d4, d5] }
  | _ => none }
def FnExactMayMarryWrongFalsely : Prop := fnExactMayMarryRow.holds Try.pinned (OpenSpec.ofChange fnExactMayMarryWrong)

/-- 'laws.FnExactImpediments': WHATEVER THE INPUT: true; the input reads as it did. -/
def fnExactImpedimentsSpec : ChangeSpec := { name := "fnExactImpediments", fn := fun _ => fun
  | [d1, d2, d3, d4, d5] => { results := [.lit (.bool true)], args := [d1, d2, d3, d4, d5] }
  | _ => none }
def fnExactImpedimentsRow : OpenClaim := { program := "ytaooopgdcneohaa", sum := "1a2a9201c7252d5b4e865f996f23d34a67cfebc4ae3fc82b50514ad156b1217f", func := "loop.example/g03221/laws.FnExactImpediments", spec := "fnExactImpediments", unfollowed := true, recurses := true, apart := false }
def FnExactImpedimentsSaid : Prop := fnExactImpedimentsRow.holds Try.pinned (OpenSpec.ofChange fnExactImpedimentsSpec)

/-- ITS FALSE NEIGHBOUR: 'it returns false'. Refute it at one input. -/
def fnExactImpedimentsWrong : ChangeSpec := { name := "fnExactImpediments", fn := fun _ => fun
  | [d1, d2, d3, d4, d5] => { results := [.lit (.bool false)], args := [d1, d2, d3, d4, d5] }
  | _ => none }
def FnExactImpedimentsWrongFalsely : Prop := fnExactImpedimentsRow.holds Try.pinned (OpenSpec.ofChange fnExactImpedimentsWrong)

/-- 'laws.FnExactPartnersAllowed': WHATEVER THE INPUT: true; the input reads as it did. -/
def fnExactPartnersAllowedSpec : ChangeSpec := { name := "fnExactPartnersAllowed", fn := fun _ => fun
  | [d1, d2, d3, d4] => { results := [.lit (.bool true)], args := [d1, d2, d3, d4] }
  | _ => none }
def fnExactPartnersAllowedRow : OpenClaim := { program := "ytaooopgdcneohaa", sum := "1a2a9201c7252d5b4e865f996f23d34a67cfebc4ae3fc82b50514ad156b1217f", func := "loop.example/g03221/laws.FnExactPartnersAllowed", spec := "fnExactPartnersAllowed", unfollowed := true, recurses := true, apart := false }
def FnExactPartnersAllowedSaid : Prop := fnExactPartnersAllowedRow.holds Try.pinned (OpenSpec.ofChange fnExactPartnersAllowedSpec)

/-- ITS FALSE NEIGHBOUR: 'it returns false'. Refute it at one input. -/
def fnExactPartnersAllowedWrong : ChangeSpec := { name := "fnExactPartnersAllowed", fn := fun _ => fun
  | [d1, d2, d3, d4] => { results := [.lit (.bool false)], args := [d1, d2, d3, d4] }
  | _ => none }
def FnExactPartnersAllowedWrongFalsely : Prop := fnExactPartnersAllowedRow.holds Try.pinned (OpenSpec.ofChange fnExactPartnersAllowedWrong)

/- THE SECOND FORM. 'bulk': how many values and letters a reading holds, each counted each time it is reached (what is shared counts as often as it is met; a slice's spare places count too). A statement '..UptoSaid' is the law's where the arguments, and the package variables that the reading takes, are together of bulk at most 1048576: NARROWER than '..Said'. Prove '..Said' where nothing that the law and all that it calls make is longer than what came in: it says more and counts as full. Else prove '..UptoSaid'. A law counts once. -/
mutual
def uptoBulk {H : Type} : DataW H → Nat
  | .lit (.string bytes) => bytes.length + 1
  | .lit _ => 1
  | .nil => 1
  | .ptr d => uptoBulk d + 1
  | .slice elems spare => uptoBulkAll elems + uptoBulkAll spare + 1
  | .agg parts => uptoBulkAll parts + 1
  | .iface _ d => uptoBulk d + 1
  | .map entries => uptoBulkEntries entries + 1
  | .held _ => 1
def uptoBulkAll {H : Type} : List (DataW H) → Nat
  | [] => 0
  | d :: r => uptoBulk d + uptoBulkAll r
def uptoBulkEntries {H : Type} : List (Lit × DataW H) → Nat
  | [] => 0
  | x :: r => uptoBulkEntry x + uptoBulkEntries r
def uptoBulkEntry {H : Type} : Lit × DataW H → Nat
  | (.string bytes, d) => bytes.length + uptoBulk d + 1
  | (_, d) => uptoBulk d + 1
 end
def uptoSmall : (H : Type) → List (DataW H) → Bool := fun _ ds => decide (uptoBulkAll ds ≤ 1048576)
def OpenSpec.upto (s : _root_.Go.ChangeSpec) : _root_.Go.OpenSpec := { _root_.Go.OpenSpec.ofChange s with cond := some uptoSmall }

/-- 'laws.FnExactKnownAt', WHERE WHAT IT READS IS OF BULK AT MOST 1048576: true; the input reads as it did. -/
def fnExactKnownAtUptoRow : OpenClaim := { program := "ytaooopgdcneohaa", sum := "1a2a9201c7252d5b4e865f996f23d34a67cfebc4ae3fc82b50514ad156b1217f", func := "loop.example/g03221/laws.FnExactKnownAt", spec := "fnExactKnownAt", apart := false, narrowed := true }
def FnExactKnownAtUptoSaid : Prop := fnExactKnownAtUptoRow.holds Try.pinned (OpenSpec.upto fnExactKnownAtSpec)

/-- 'laws.FnExactClassPartners', WHERE WHAT IT READS IS OF BULK AT MOST 1048576: true; the input reads as it did. -/
def fnExactClassPartnersUptoRow : OpenClaim := { program := "ytaooopgdcneohaa", sum := "1a2a9201c7252d5b4e865f996f23d34a67cfebc4ae3fc82b50514ad156b1217f", func := "loop.example/g03221/laws.FnExactClassPartners", spec := "fnExactClassPartners", apart := false, narrowed := true }
def FnExactClassPartnersUptoSaid : Prop := fnExactClassPartnersUptoRow.holds Try.pinned (OpenSpec.upto fnExactClassPartnersSpec)

/-- 'laws.FnExactBuildFamily', WHERE WHAT IT READS IS OF BULK AT MOST 1048576: true; the input reads as it did. -/
def fnExactBuildFamilyUptoRow : OpenClaim := { program := "ytaooopgdcneohaa", sum := "1a2a9201c7252d5b4e865f996f23d34a67cfebc4ae3fc82b50514ad156b1217f", func := "loop.example/g03221/laws.FnExactBuildFamily", spec := "fnExactBuildFamily", unfollowed := true, recurses := true, apart := false, narrowed := true }
def FnExactBuildFamilyUptoSaid : Prop := fnExactBuildFamilyUptoRow.holds Try.pinned (OpenSpec.upto fnExactBuildFamilySpec)

/-- 'laws.FnExactMayMarry', WHERE WHAT IT READS IS OF BULK AT MOST 1048576: true; the input reads as it did. -/
def fnExactMayMarryUptoRow : OpenClaim := { program := "ytaooopgdcneohaa", sum := "1a2a9201c7252d5b4e865f996f23d34a67cfebc4ae3fc82b50514ad156b1217f", func := "loop.example/g03221/laws.FnExactMayMarry", spec := "fnExactMayMarry", unfollowed := true, recurses := true, apart := false, narrowed := true }
def FnExactMayMarryUptoSaid : Prop := fnExactMayMarryUptoRow.holds Try.pinned (OpenSpec.upto fnExactMayMarrySpec)

/-- 'laws.FnExactImpediments', WHERE WHAT IT READS IS OF BULK AT MOST 1048576: true; the input reads as it did. -/
def fnExactImpedimentsUptoRow : OpenClaim := { program := "ytaooopgdcneohaa", sum := "1a2a9201c7252d5b4e865f996f23d34a67cfebc4ae3fc82b50514ad156b1217f", func := "loop.example/g03221/laws.FnExactImpediments", spec := "fnExactImpediments", unfollowed := true, recurses := true, apart := false, narrowed := true }
def FnExactImpedimentsUptoSaid : Prop := fnExactImpedimentsUptoRow.holds Try.pinned (OpenSpec.upto fnExactImpedimentsSpec)

/-- 'laws.FnExactPartnersAllowed', WHERE WHAT IT READS IS OF BULK AT MOST 1048576: true; the input reads as it did. -/
def fnExactPartnersAllowedUptoRow : OpenClaim := { program := "ytaooopgdcneohaa", sum := "1a2a9201c7252d5b4e865f996f23d34a67cfebc4ae3fc82b50514ad156b1217f", func := "loop.example/g03221/laws.FnExactPartnersAllowed", spec := "fnExactPartnersAllowed", unfollowed := true, recurses := true, apart := false, narrowed := true }
def FnExactPartnersAllowedUptoSaid : Prop := fnExactPartnersAllowedUptoRow.holds Try.pinned (OpenSpec.upto fnExactPartnersAllowedSpec)

end Rows
end Go.Proofs.Ytaooopgdcneohaa
