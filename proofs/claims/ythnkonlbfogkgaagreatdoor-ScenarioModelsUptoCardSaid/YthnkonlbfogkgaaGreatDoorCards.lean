/-
  DERIVED. GIVEN WITH THE SEED: THE CARDS: each row of YthnkonlbfogkgaaGreatDoorRows.lean that lists a variable, with what it lists TIED to the program's text (the seventh form; the later family's looks); each row that meets fmt, with fmt's text TOLD by the authors' own Lean function (tested against real Go, not proved from fmt's source: count such statements apart). THE CARD IS WHAT COUNTS. Prove the row's statement (the work); the ties are given (YthnkonlbfogkgaaGreatDoorTie.lean); close each card by the builder's one call (the guide's Derived/Test/ToyasCard.lean, 'card_holds'). Laid BY PROGRAM, IN A SANDBOX (cutbox-door.mjs). By AI agents, Wed Nov 11 2026. No macro, syntax, notation, axiom, sorry.
-/
import Derived.Test.YthnkonlbfogkgaaGreatDoorRows
import GoSem.ClaimSeven
namespace Go.Proofs.YthnkonlbfogkgaaGreatDoor
namespace Rows

/-- THE TIED CARD OF 'exoduslaw59.ScenarioLines'. -/
def scenarioLinesCard : Claim7 := { stood := { row := scenarioLinesRow, standIns := [], harness := (true, "95bd029508536b5caa90ae204a4abb05856bec0c1b5de01c2d7940bd2d519ddc"), looks := true }, kinds := [], alts := [], laidByText := true, laidKinds := [.data, .data, .data, .data, .sentinel, .sentinel, .listed, .data, .pinned], laidTests := true, laidLooks := .later }
def ScenarioLinesCardSaid : Prop := Claim7.holds Tryz.pinned (.plain (OpenSpec.ofChange scenarioLinesSpec)) scenarioLinesCard

/-- THE TIED CARD OF 'exoduslaw59.ScenarioModels'. -/
def scenarioModelsCard : Claim7 := { stood := { row := scenarioModelsRow, standIns := [], harness := (true, "95bd029508536b5caa90ae204a4abb05856bec0c1b5de01c2d7940bd2d519ddc"), looks := true }, kinds := [], alts := [], laidByText := true, laidKinds := [.data, .data, .data, .data, .sentinel, .sentinel, .listed, .data, .pinned], laidTests := true, laidLooks := .later }
def ScenarioModelsCardSaid : Prop := Claim7.holds Tryz.pinned (.plain (OpenSpec.ofChange scenarioModelsSpec)) scenarioModelsCard

/-- THE TIED CARD OF 'exoduslaw59.ScenarioTexts'. -/
def scenarioTextsCard : Claim7 := { stood := { row := scenarioTextsRow, standIns := [], harness := (true, "95bd029508536b5caa90ae204a4abb05856bec0c1b5de01c2d7940bd2d519ddc"), looks := true }, kinds := [], alts := [], laidByText := true, laidKinds := [.data, .data, .data, .data, .sentinel, .sentinel, .listed, .data, .pinned], laidTests := true, laidLooks := .later }
def ScenarioTextsCardSaid : Prop := Claim7.holds Tryz.pinned (.plain (OpenSpec.ofChange scenarioTextsSpec)) scenarioTextsCard

/-- THE TIED CARD OF 'exoduslaw59.ScenarioReads'. -/
def scenarioReadsCard : Claim7 := { stood := { row := scenarioReadsRow, standIns := [], harness := (true, "95bd029508536b5caa90ae204a4abb05856bec0c1b5de01c2d7940bd2d519ddc"), looks := true }, kinds := [], alts := [], laidByText := true, laidKinds := [.data, .data, .data, .data, .sentinel, .sentinel, .listed, .data, .pinned], laidTests := true, laidLooks := .later }
def ScenarioReadsCardSaid : Prop := Claim7.holds Tryz.pinned (.plain (OpenSpec.ofChange scenarioReadsSpec)) scenarioReadsCard

/-- THE SECOND FORM's CARD OF 'exoduslaw59.ScenarioLines'. -/
def scenarioLinesUptoCard : Claim7 := { stood := { row := scenarioLinesUptoRow, standIns := [], harness := (true, "95bd029508536b5caa90ae204a4abb05856bec0c1b5de01c2d7940bd2d519ddc"), looks := true }, kinds := [], alts := [], laidByText := true, laidKinds := [.data, .data, .data, .data, .sentinel, .sentinel, .listed, .data, .pinned], laidTests := true, laidLooks := .later }
def ScenarioLinesUptoCardSaid : Prop := Claim7.holds Tryz.pinned (.plain (OpenSpec.upto scenarioLinesSpec)) scenarioLinesUptoCard

/-- THE SECOND FORM's CARD OF 'exoduslaw59.ScenarioModels'. -/
def scenarioModelsUptoCard : Claim7 := { stood := { row := scenarioModelsUptoRow, standIns := [], harness := (true, "95bd029508536b5caa90ae204a4abb05856bec0c1b5de01c2d7940bd2d519ddc"), looks := true }, kinds := [], alts := [], laidByText := true, laidKinds := [.data, .data, .data, .data, .sentinel, .sentinel, .listed, .data, .pinned], laidTests := true, laidLooks := .later }
def ScenarioModelsUptoCardSaid : Prop := Claim7.holds Tryz.pinned (.plain (OpenSpec.upto scenarioModelsSpec)) scenarioModelsUptoCard

/-- THE SECOND FORM's CARD OF 'exoduslaw59.ScenarioTexts'. -/
def scenarioTextsUptoCard : Claim7 := { stood := { row := scenarioTextsUptoRow, standIns := [], harness := (true, "95bd029508536b5caa90ae204a4abb05856bec0c1b5de01c2d7940bd2d519ddc"), looks := true }, kinds := [], alts := [], laidByText := true, laidKinds := [.data, .data, .data, .data, .sentinel, .sentinel, .listed, .data, .pinned], laidTests := true, laidLooks := .later }
def ScenarioTextsUptoCardSaid : Prop := Claim7.holds Tryz.pinned (.plain (OpenSpec.upto scenarioTextsSpec)) scenarioTextsUptoCard

/-- THE SECOND FORM's CARD OF 'exoduslaw59.ScenarioReads'. -/
def scenarioReadsUptoCard : Claim7 := { stood := { row := scenarioReadsUptoRow, standIns := [], harness := (true, "95bd029508536b5caa90ae204a4abb05856bec0c1b5de01c2d7940bd2d519ddc"), looks := true }, kinds := [], alts := [], laidByText := true, laidKinds := [.data, .data, .data, .data, .sentinel, .sentinel, .listed, .data, .pinned], laidTests := true, laidLooks := .later }
def ScenarioReadsUptoCardSaid : Prop := Claim7.holds Tryz.pinned (.plain (OpenSpec.upto scenarioReadsSpec)) scenarioReadsUptoCard
end Rows
end Go.Proofs.YthnkonlbfogkgaaGreatDoor
