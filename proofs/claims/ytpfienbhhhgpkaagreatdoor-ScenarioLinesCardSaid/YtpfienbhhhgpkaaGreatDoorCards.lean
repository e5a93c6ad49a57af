/-
  DERIVED. GIVEN WITH THE SEED: THE CARDS: each row of YtpfienbhhhgpkaaGreatDoorRows.lean that lists a variable, with what it lists TIED to the program's text (the seventh form; the later family's looks); each row that meets fmt, with fmt's text TOLD by the authors' own Lean function (tested against real Go, not proved from fmt's source: count such statements apart). THE CARD IS WHAT COUNTS. Prove the row's statement (the work); the ties are given (YtpfienbhhhgpkaaGreatDoorTie.lean); close each card by the builder's one call (the guide's Derived/Test/ToyasCard.lean, 'card_holds'). Laid BY PROGRAM, IN A SANDBOX (cutbox-door.mjs). By AI agents, Wed Nov 11 2026. No macro, syntax, notation, axiom, sorry.
-/
import Derived.Test.YtpfienbhhhgpkaaGreatDoorRows
import GoSem.ClaimSeven
namespace Go.Proofs.YtpfienbhhhgpkaaGreatDoor
namespace Rows

/-- THE TIED CARD OF 'exoduslaw59.ScenarioLines'. -/
def scenarioLinesCard : Claim7 := { stood := { row := scenarioLinesRow, standIns := [], harness := (true, "61ffa5420aa640f1d62c3c2e79ce02f61dac4207db69846f492bd3d56e08e99f"), looks := true }, kinds := [], alts := [], laidByText := true, laidKinds := [.data, .data, .data, .data, .sentinel, .sentinel, .listed, .data, .pinned], laidTests := true, laidLooks := .later }
def ScenarioLinesCardSaid : Prop := Claim7.holds Tryz.pinned (.plain (OpenSpec.ofChange scenarioLinesSpec)) scenarioLinesCard

/-- THE SECOND FORM's CARD OF 'exoduslaw59.ScenarioLines'. -/
def scenarioLinesUptoCard : Claim7 := { stood := { row := scenarioLinesUptoRow, standIns := [], harness := (true, "61ffa5420aa640f1d62c3c2e79ce02f61dac4207db69846f492bd3d56e08e99f"), looks := true }, kinds := [], alts := [], laidByText := true, laidKinds := [.data, .data, .data, .data, .sentinel, .sentinel, .listed, .data, .pinned], laidTests := true, laidLooks := .later }
def ScenarioLinesUptoCardSaid : Prop := Claim7.holds Tryz.pinned (.plain (OpenSpec.upto scenarioLinesSpec)) scenarioLinesUptoCard
end Rows
end Go.Proofs.YtpfienbhhhgpkaaGreatDoor
