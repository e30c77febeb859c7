/-
  DERIVED. GIVEN WITH THE SEED: THE CARDS: each row of YtnphfelaffdmkaaGreatDoorRows.lean that lists a variable, with what it lists TIED to the program's text (the seventh form; the later family's looks); each row that meets fmt, with fmt's text TOLD by the authors' own Lean function (tested against real Go, not proved from fmt's source: count such statements apart). THE CARD IS WHAT COUNTS. Prove the row's statement (the work); the ties are given (YtnphfelaffdmkaaGreatDoorTie.lean); close each card by the builder's one call (the guide's Derived/Test/ToyasCard.lean, 'card_holds'). Laid BY PROGRAM, IN A SANDBOX (cutbox-door.mjs). By AI agents, Wed Nov 11 2026. No macro, syntax, notation, axiom, sorry.
-/
import Derived.Test.YtnphfelaffdmkaaGreatDoorRows
import GoSem.ClaimSeven
namespace Go.Proofs.YtnphfelaffdmkaaGreatDoor
namespace Rows

/-- THE TIED CARD OF 'laws.FnQuestions'. -/
def fnQuestionsCard : Claim7 := { stood := { row := fnQuestionsRow, standIns := [], harness := (true, "974b9e4b1abcabd0568a36f220d6d1924a4124750a30e00e4cc5ccbded4b8cb2"), looks := true }, kinds := [], alts := [], laidByText := true, laidKinds := [.data, .data, .data, .data, .sentinel, .sentinel, .data, .pinned], laidTests := true, laidLooks := .later }
def FnQuestionsCardSaid : Prop := Claim7.holds Tryz.pinned (.plain (OpenSpec.ofChange fnQuestionsSpec)) fnQuestionsCard

/-- THE SECOND FORM's CARD OF 'laws.FnQuestions'. -/
def fnQuestionsUptoCard : Claim7 := { stood := { row := fnQuestionsUptoRow, standIns := [], harness := (true, "974b9e4b1abcabd0568a36f220d6d1924a4124750a30e00e4cc5ccbded4b8cb2"), looks := true }, kinds := [], alts := [], laidByText := true, laidKinds := [.data, .data, .data, .data, .sentinel, .sentinel, .data, .pinned], laidTests := true, laidLooks := .later }
def FnQuestionsUptoCardSaid : Prop := Claim7.holds Tryz.pinned (.plain (OpenSpec.upto fnQuestionsSpec)) fnQuestionsUptoCard
end Rows
end Go.Proofs.YtnphfelaffdmkaaGreatDoor
