/-
  DERIVED. GIVEN WITH THE SEED: THE CARDS: each row of YtepefimocflfkabDoorRows.lean that lists a variable, with what it lists TIED to the program's text (the seventh form; the later family's looks); each row that meets fmt, with fmt's text TOLD by the authors' own Lean function (tested against real Go, not proved from fmt's source: count such statements apart). THE CARD IS WHAT COUNTS. Prove the row's statement (the work); the ties are given (YtepefimocflfkabDoorTie.lean); close each card by the builder's one call (the guide's Derived/Test/ToyasCard.lean, 'card_holds'). Laid BY PROGRAM, IN A SANDBOX (cutbox-door.mjs). By AI agents, Wed Nov 11 2026. No macro, syntax, notation, axiom, sorry.
-/
import Derived.Test.YtepefimocflfkabDoorRows
import GoSem.ClaimSeven
namespace Go.Proofs.YtepefimocflfkabDoor
namespace Rows

/-- THE TIED CARD OF 'laws.FnExactFormatLaw'. -/
def fnExactFormatLawCard : Claim7 := { stood := { row := fnExactFormatLawRow, standIns := [], harness := (true, "71f6ca7f67760f8ec0a370d619496b58b4e5e3349a7d383774c55edd41f39ca2"), looks := true }, kinds := [], alts := [], laidByText := true, laidKinds := [.data, .data, .data], laidTests := true, laidLooks := .later }
def FnExactFormatLawCardSaid : Prop := Claim7.holds Tryd.pinned (.plain (OpenSpec.ofChange fnExactFormatLawSpec)) fnExactFormatLawCard

/-- THE TIED CARD OF 'laws.FnExactParseLaw'. -/
def fnExactParseLawCard : Claim7 := { stood := { row := fnExactParseLawRow, standIns := [], harness := (true, "71f6ca7f67760f8ec0a370d619496b58b4e5e3349a7d383774c55edd41f39ca2"), looks := true }, kinds := [], alts := [], laidByText := true, laidKinds := [.data, .data, .data, .data, .sentinel, .sentinel, .pinned], laidTests := true, laidLooks := .later }
def FnExactParseLawCardSaid : Prop := Claim7.holds Tryd.pinned (.plain (OpenSpec.ofChange fnExactParseLawSpec)) fnExactParseLawCard

/-- THE TIED CARD OF 'laws.FnSpoken'. -/
def fnSpokenCard : Claim7 := { stood := { row := fnSpokenRow, standIns := [], harness := (true, "71f6ca7f67760f8ec0a370d619496b58b4e5e3349a7d383774c55edd41f39ca2"), looks := true }, kinds := [], alts := [], laidByText := true, laidKinds := [.data, .data, .data, .data, .sentinel, .sentinel, .data, .pinned], laidTests := true, laidLooks := .later }
def FnSpokenCardSaid : Prop := Claim7.holds Tryd.pinned (.plain (OpenSpec.ofChange fnSpokenSpec)) fnSpokenCard

/-- THE SECOND FORM's CARD OF 'laws.FnExactFormatLaw'. -/
def fnExactFormatLawUptoCard : Claim7 := { stood := { row := fnExactFormatLawUptoRow, standIns := [], harness := (true, "71f6ca7f67760f8ec0a370d619496b58b4e5e3349a7d383774c55edd41f39ca2"), looks := true }, kinds := [], alts := [], laidByText := true, laidKinds := [.data, .data, .data], laidTests := true, laidLooks := .later }
def FnExactFormatLawUptoCardSaid : Prop := Claim7.holds Tryd.pinned (.plain (OpenSpec.upto fnExactFormatLawSpec)) fnExactFormatLawUptoCard

/-- THE SECOND FORM's CARD OF 'laws.FnExactParseLaw'. -/
def fnExactParseLawUptoCard : Claim7 := { stood := { row := fnExactParseLawUptoRow, standIns := [], harness := (true, "71f6ca7f67760f8ec0a370d619496b58b4e5e3349a7d383774c55edd41f39ca2"), looks := true }, kinds := [], alts := [], laidByText := true, laidKinds := [.data, .data, .data, .data, .sentinel, .sentinel, .pinned], laidTests := true, laidLooks := .later }
def FnExactParseLawUptoCardSaid : Prop := Claim7.holds Tryd.pinned (.plain (OpenSpec.upto fnExactParseLawSpec)) fnExactParseLawUptoCard

/-- THE SECOND FORM's CARD OF 'laws.FnSpoken'. -/
def fnSpokenUptoCard : Claim7 := { stood := { row := fnSpokenUptoRow, standIns := [], harness := (true, "71f6ca7f67760f8ec0a370d619496b58b4e5e3349a7d383774c55edd41f39ca2"), looks := true }, kinds := [], alts := [], laidByText := true, laidKinds := [.data, .data, .data, .data, .sentinel, .sentinel, .data, .pinned], laidTests := true, laidLooks := .later }
def FnSpokenUptoCardSaid : Prop := Claim7.holds Tryd.pinned (.plain (OpenSpec.upto fnSpokenSpec)) fnSpokenUptoCard
end Rows
end Go.Proofs.YtepefimocflfkabDoor
