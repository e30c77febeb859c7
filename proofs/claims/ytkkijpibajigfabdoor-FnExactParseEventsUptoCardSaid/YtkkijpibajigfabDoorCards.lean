/-
  DERIVED. GIVEN WITH THE SEED: THE CARDS: each row of YtkkijpibajigfabDoorRows.lean that lists a variable, with what it lists TIED to the program's text (the seventh form; the later family's looks); each row that meets fmt, with fmt's text TOLD by the authors' own Lean function (tested against real Go, not proved from fmt's source: count such statements apart). THE CARD IS WHAT COUNTS. Prove the row's statement (the work); the ties are given (YtkkijpibajigfabDoorTie.lean); close each card by the builder's one call (the guide's Derived/Test/ToyasCard.lean, 'card_holds'). Laid BY PROGRAM, IN A SANDBOX (cutbox-door.mjs). By AI agents, Wed Nov 11 2026. No macro, syntax, notation, axiom, sorry.
-/
import Derived.Test.YtkkijpibajigfabDoorRows
import GoSem.ClaimSeven
namespace Go.Proofs.YtkkijpibajigfabDoor
namespace Rows

/-- THE TIED CARD OF 'laws.FnExactFormatEvents'. -/
def fnExactFormatEventsCard : Claim7 := { stood := { row := fnExactFormatEventsRow, standIns := [], harness := (true, "8c25cf653c79c38c4cb341a7ef3458ed17fbd47221f6601c2d120c317c4ff7f3"), looks := true }, kinds := [], alts := [], laidByText := true, laidKinds := [.data, .data, .data], laidTests := true, laidLooks := .later }
def FnExactFormatEventsCardSaid : Prop := Claim7.holds Tryd.pinned (.plain (OpenSpec.ofChange fnExactFormatEventsSpec)) fnExactFormatEventsCard

/-- THE TIED CARD OF 'laws.FnExactParseEvents'. -/
def fnExactParseEventsCard : Claim7 := { stood := { row := fnExactParseEventsRow, standIns := [], harness := (true, "8c25cf653c79c38c4cb341a7ef3458ed17fbd47221f6601c2d120c317c4ff7f3"), looks := true }, kinds := [], alts := [], laidByText := true, laidKinds := [.data, .data, .data, .data, .sentinel, .sentinel, .pinned], laidTests := true, laidLooks := .later }
def FnExactParseEventsCardSaid : Prop := Claim7.holds Tryd.pinned (.plain (OpenSpec.ofChange fnExactParseEventsSpec)) fnExactParseEventsCard

/-- THE SECOND FORM's CARD OF 'laws.FnExactFormatEvents'. -/
def fnExactFormatEventsUptoCard : Claim7 := { stood := { row := fnExactFormatEventsUptoRow, standIns := [], harness := (true, "8c25cf653c79c38c4cb341a7ef3458ed17fbd47221f6601c2d120c317c4ff7f3"), looks := true }, kinds := [], alts := [], laidByText := true, laidKinds := [.data, .data, .data], laidTests := true, laidLooks := .later }
def FnExactFormatEventsUptoCardSaid : Prop := Claim7.holds Tryd.pinned (.plain (OpenSpec.upto fnExactFormatEventsSpec)) fnExactFormatEventsUptoCard

/-- THE SECOND FORM's CARD OF 'laws.FnExactParseEvents'. -/
def fnExactParseEventsUptoCard : Claim7 := { stood := { row := fnExactParseEventsUptoRow, standIns := [], harness := (true, "8c25cf653c79c38c4cb341a7ef3458ed17fbd47221f6601c2d120c317c4ff7f3"), looks := true }, kinds := [], alts := [], laidByText := true, laidKinds := [.data, .data, .data, .data, .sentinel, .sentinel, .pinned], laidTests := true, laidLooks := .later }
def FnExactParseEventsUptoCardSaid : Prop := Claim7.holds Tryd.pinned (.plain (OpenSpec.upto fnExactParseEventsSpec)) fnExactParseEventsUptoCard
end Rows
end Go.Proofs.YtkkijpibajigfabDoor
