/-
  DERIVED. GIVEN WITH THE SEED: THE CARDS: each row of YtmefknjcgdbceaaDoorRows.lean that lists a variable, with what it lists TIED to the program's text (the seventh form; the later family's looks); each row that meets fmt, with fmt's text TOLD by the authors' own Lean function (tested against real Go, not proved from fmt's source: count such statements apart). THE CARD IS WHAT COUNTS. Prove the row's statement (the work); the ties are given (YtmefknjcgdbceaaDoorTie.lean); close each card by the builder's one call (the guide's Derived/Test/ToyasCard.lean, 'card_holds'). Laid BY PROGRAM, IN A SANDBOX (cutbox-door.mjs). By AI agents, Wed Nov 11 2026. No macro, syntax, notation, axiom, sorry.
-/
import Derived.Test.YtmefknjcgdbceaaDoorRows
import GoSem.ClaimSeven
namespace Go.Proofs.YtmefknjcgdbceaaDoor
namespace Rows

/-- THE TIED CARD OF 'laws.FnExactFormatCustom'. -/
def fnExactFormatCustomCard : Claim7 := { stood := { row := fnExactFormatCustomRow, standIns := [], harness := (true, "fa17a64b31051bb59ef12fdc7eefd2759dcf563bf0a41c9704d2501ca3b7a015"), looks := false }, kinds := [], alts := [], laidByText := true, laidKinds := [.data], laidTests := true, laidLooks := .later }
def FnExactFormatCustomCardSaid : Prop := Claim7.holds Tryd.pinned (.plain (OpenSpec.ofChange fnExactFormatCustomSpec)) fnExactFormatCustomCard

/-- THE TIED CARD OF 'laws.FnExactParseCustom'. -/
def fnExactParseCustomCard : Claim7 := { stood := { row := fnExactParseCustomRow, standIns := [], harness := (true, "fa17a64b31051bb59ef12fdc7eefd2759dcf563bf0a41c9704d2501ca3b7a015"), looks := false }, kinds := [], alts := [], laidByText := true, laidKinds := [.data], laidTests := true, laidLooks := .later }
def FnExactParseCustomCardSaid : Prop := Claim7.holds Tryd.pinned (.plain (OpenSpec.ofChange fnExactParseCustomSpec)) fnExactParseCustomCard

/-- THE SECOND FORM's CARD OF 'laws.FnExactFormatCustom'. -/
def fnExactFormatCustomUptoCard : Claim7 := { stood := { row := fnExactFormatCustomUptoRow, standIns := [], harness := (true, "fa17a64b31051bb59ef12fdc7eefd2759dcf563bf0a41c9704d2501ca3b7a015"), looks := false }, kinds := [], alts := [], laidByText := true, laidKinds := [.data], laidTests := true, laidLooks := .later }
def FnExactFormatCustomUptoCardSaid : Prop := Claim7.holds Tryd.pinned (.plain (OpenSpec.upto fnExactFormatCustomSpec)) fnExactFormatCustomUptoCard

/-- THE SECOND FORM's CARD OF 'laws.FnExactParseCustom'. -/
def fnExactParseCustomUptoCard : Claim7 := { stood := { row := fnExactParseCustomUptoRow, standIns := [], harness := (true, "fa17a64b31051bb59ef12fdc7eefd2759dcf563bf0a41c9704d2501ca3b7a015"), looks := false }, kinds := [], alts := [], laidByText := true, laidKinds := [.data], laidTests := true, laidLooks := .later }
def FnExactParseCustomUptoCardSaid : Prop := Claim7.holds Tryd.pinned (.plain (OpenSpec.upto fnExactParseCustomSpec)) fnExactParseCustomUptoCard
end Rows
end Go.Proofs.YtmefknjcgdbceaaDoor
