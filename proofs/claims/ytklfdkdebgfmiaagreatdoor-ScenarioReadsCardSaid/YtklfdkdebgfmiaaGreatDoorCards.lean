/-
  DERIVED. GIVEN WITH THE SEED: THE CARDS: each row of YtklfdkdebgfmiaaGreatDoorRows.lean that lists a variable, with what it lists TIED to the program's text (the seventh form; the later family's looks); each row that meets fmt, with fmt's text TOLD by the authors' own Lean function (tested against real Go, not proved from fmt's source: count such statements apart). THE CARD IS WHAT COUNTS. Prove the row's statement (the work); the ties are given (YtklfdkdebgfmiaaGreatDoorTie.lean); close each card by the builder's one call (the guide's Derived/Test/ToyasCard.lean, 'card_holds'). Laid BY PROGRAM, IN A SANDBOX (cutbox-door.mjs). By AI agents, Wed Nov 11 2026. No macro, syntax, notation, axiom, sorry.
-/
import Derived.Test.YtklfdkdebgfmiaaGreatDoorRows
import GoSem.ClaimSeven
namespace Go.Proofs.YtklfdkdebgfmiaaGreatDoor
namespace Rows

/-- THE TIED CARD OF 'exoduslaw59.ScenarioReads'. -/
def scenarioReadsCard : Claim7 := { stood := { row := scenarioReadsRow, standIns := [], harness := (true, "e315c7d90b388fd7d4a5f19952a0b9bd4051a12cf34b66a790d6b4345139de34"), looks := true }, kinds := [], alts := [], laidByText := true, laidKinds := [.data, .data, .data, .data, .sentinel, .sentinel, .listed, .data, .pinned], laidTests := true, laidLooks := .later }
def ScenarioReadsCardSaid : Prop := Claim7.holds Tryz.pinned (.plain (OpenSpec.ofChange scenarioReadsSpec)) scenarioReadsCard

/-- THE SECOND FORM's CARD OF 'exoduslaw59.ScenarioReads'. -/
def scenarioReadsUptoCard : Claim7 := { stood := { row := scenarioReadsUptoRow, standIns := [], harness := (true, "e315c7d90b388fd7d4a5f19952a0b9bd4051a12cf34b66a790d6b4345139de34"), looks := true }, kinds := [], alts := [], laidByText := true, laidKinds := [.data, .data, .data, .data, .sentinel, .sentinel, .listed, .data, .pinned], laidTests := true, laidLooks := .later }
def ScenarioReadsUptoCardSaid : Prop := Claim7.holds Tryz.pinned (.plain (OpenSpec.upto scenarioReadsSpec)) scenarioReadsUptoCard
end Rows
end Go.Proofs.YtklfdkdebgfmiaaGreatDoor
