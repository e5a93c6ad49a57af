/-
  DERIVED. GIVEN WITH THE SEED: THE CARDS: each row of YtihhpjmclebfpaaGreatDoorRows.lean that lists a variable, with what it lists TIED to the program's text (the seventh form; the later family's looks); each row that meets fmt, with fmt's text TOLD by the authors' own Lean function (tested against real Go, not proved from fmt's source: count such statements apart). THE CARD IS WHAT COUNTS. Prove the row's statement (the work); the ties are given (YtihhpjmclebfpaaGreatDoorTie.lean); close each card by the builder's one call (the guide's Derived/Test/ToyasCard.lean, 'card_holds'). Laid BY PROGRAM, IN A SANDBOX (cutbox-door.mjs). By AI agents, Wed Nov 11 2026. No macro, syntax, notation, axiom, sorry.
-/
import Derived.Test.YtihhpjmclebfpaaGreatDoorRows
import GoSem.ClaimSeven
namespace Go.Proofs.YtihhpjmclebfpaaGreatDoor
namespace Rows

/-- THE TIED CARD OF 'exoduslaw59.ScenarioTexts'. -/
def scenarioTextsCard : Claim7 := { stood := { row := scenarioTextsRow, standIns := [], harness := (true, "4a3da9157e984df50e0f6b9eaa61fdc393edcf2be4f0cf3e50c11fe4372bc4c9"), looks := true }, kinds := [], alts := [], laidByText := true, laidKinds := [.data, .data, .data, .data, .sentinel, .sentinel, .listed, .data, .pinned], laidTests := true, laidLooks := .later }
def ScenarioTextsCardSaid : Prop := Claim7.holds Tryz.pinned (.plain (OpenSpec.ofChange scenarioTextsSpec)) scenarioTextsCard

/-- THE SECOND FORM's CARD OF 'exoduslaw59.ScenarioTexts'. -/
def scenarioTextsUptoCard : Claim7 := { stood := { row := scenarioTextsUptoRow, standIns := [], harness := (true, "4a3da9157e984df50e0f6b9eaa61fdc393edcf2be4f0cf3e50c11fe4372bc4c9"), looks := true }, kinds := [], alts := [], laidByText := true, laidKinds := [.data, .data, .data, .data, .sentinel, .sentinel, .listed, .data, .pinned], laidTests := true, laidLooks := .later }
def ScenarioTextsUptoCardSaid : Prop := Claim7.holds Tryz.pinned (.plain (OpenSpec.upto scenarioTextsSpec)) scenarioTextsUptoCard
end Rows
end Go.Proofs.YtihhpjmclebfpaaGreatDoor
