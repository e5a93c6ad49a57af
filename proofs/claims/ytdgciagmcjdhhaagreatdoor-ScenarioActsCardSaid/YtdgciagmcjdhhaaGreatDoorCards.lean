/-
  DERIVED. GIVEN WITH THE SEED: THE CARDS: each row of YtdgciagmcjdhhaaGreatDoorRows.lean that lists a variable, with what it lists TIED to the program's text (the seventh form; the later family's looks); each row that meets fmt, with fmt's text TOLD by the authors' own Lean function (tested against real Go, not proved from fmt's source: count such statements apart). THE CARD IS WHAT COUNTS. Prove the row's statement (the work); the ties are given (YtdgciagmcjdhhaaGreatDoorTie.lean); close each card by the builder's one call (the guide's Derived/Test/ToyasCard.lean, 'card_holds'). Laid BY PROGRAM, IN A SANDBOX (cutbox-door.mjs). By AI agents, Wed Nov 11 2026. No macro, syntax, notation, axiom, sorry.
-/
import Derived.Test.YtdgciagmcjdhhaaGreatDoorRows
import GoSem.ClaimSeven
namespace Go.Proofs.YtdgciagmcjdhhaaGreatDoor
namespace Rows

/-- THE TIED CARD OF 'exoduslaw59.ScenarioActs'. -/
def scenarioActsCard : Claim7 := { stood := { row := scenarioActsRow, standIns := [], harness := (true, "f249efb33cb5dd00313aea03322c73749af5f570239b9e7848e238ea877eb656"), looks := true }, kinds := [], alts := [], laidByText := true, laidKinds := [.data, .data, .data, .data, .sentinel, .sentinel, .pinned], laidTests := true, laidLooks := .later }
def ScenarioActsCardSaid : Prop := Claim7.holds Tryz.pinned (.plain (OpenSpec.ofChange scenarioActsSpec)) scenarioActsCard

/-- THE TIED CARD OF 'exoduslaw59.ScenarioReadsActs'. -/
def scenarioReadsActsCard : Claim7 := { stood := { row := scenarioReadsActsRow, standIns := [], harness := (true, "f249efb33cb5dd00313aea03322c73749af5f570239b9e7848e238ea877eb656"), looks := true }, kinds := [], alts := [], laidByText := true, laidKinds := [.data, .data, .data, .data, .sentinel, .sentinel, .pinned], laidTests := true, laidLooks := .later }
def ScenarioReadsActsCardSaid : Prop := Claim7.holds Tryz.pinned (.plain (OpenSpec.ofChange scenarioReadsActsSpec)) scenarioReadsActsCard

/-- THE SECOND FORM's CARD OF 'exoduslaw59.ScenarioActs'. -/
def scenarioActsUptoCard : Claim7 := { stood := { row := scenarioActsUptoRow, standIns := [], harness := (true, "f249efb33cb5dd00313aea03322c73749af5f570239b9e7848e238ea877eb656"), looks := true }, kinds := [], alts := [], laidByText := true, laidKinds := [.data, .data, .data, .data, .sentinel, .sentinel, .pinned], laidTests := true, laidLooks := .later }
def ScenarioActsUptoCardSaid : Prop := Claim7.holds Tryz.pinned (.plain (OpenSpec.upto scenarioActsSpec)) scenarioActsUptoCard

/-- THE SECOND FORM's CARD OF 'exoduslaw59.ScenarioReadsActs'. -/
def scenarioReadsActsUptoCard : Claim7 := { stood := { row := scenarioReadsActsUptoRow, standIns := [], harness := (true, "f249efb33cb5dd00313aea03322c73749af5f570239b9e7848e238ea877eb656"), looks := true }, kinds := [], alts := [], laidByText := true, laidKinds := [.data, .data, .data, .data, .sentinel, .sentinel, .pinned], laidTests := true, laidLooks := .later }
def ScenarioReadsActsUptoCardSaid : Prop := Claim7.holds Tryz.pinned (.plain (OpenSpec.upto scenarioReadsActsSpec)) scenarioReadsActsUptoCard
end Rows
end Go.Proofs.YtdgciagmcjdhhaaGreatDoor
