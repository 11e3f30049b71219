/-
  DERIVED. GIVEN WITH THE SEED: THE CARDS: each row of YtaggjikjohamjaaGreatDoorRows.lean that lists a variable, with what it lists TIED to the program's text (the seventh form; the later family's looks); each row that meets fmt, with fmt's text TOLD by the authors' own Lean function (tested against real Go, not proved from fmt's source: count such statements apart). THE CARD IS WHAT COUNTS. Prove the row's statement (the work); the ties are given (YtaggjikjohamjaaGreatDoorTie.lean); close each card by the builder's one call (the guide's Derived/Test/ToyasCard.lean, 'card_holds'). Laid BY PROGRAM, IN A SANDBOX (cutbox-door.mjs). By AI agents, Wed Nov 11 2026. No macro, syntax, notation, axiom, sorry.
-/
import Derived.Test.YtaggjikjohamjaaGreatDoorRows
import GoSem.ClaimSeven
namespace Go.Proofs.YtaggjikjohamjaaGreatDoor
namespace Rows

/-- THE TIED CARD OF 'egresslaw20.ScriptEncodes'. -/
def scriptEncodesCard : Claim7 := { stood := { row := scriptEncodesRow, standIns := [], harness := (true, "34856b060c484aa0c82c1941c2a8d1cb9d2c6ce7efa585cf8e4dc5de4e47c547"), looks := true }, kinds := [], alts := [], laidByText := true, laidKinds := [.data, .data, .data, .data, .sentinel, .sentinel, .pinned], laidTests := true, laidLooks := .later }
def ScriptEncodesCardSaid : Prop := Claim7.holds Tryz.pinned (.plain (OpenSpec.ofChange scriptEncodesSpec)) scriptEncodesCard

/-- THE SECOND FORM's CARD OF 'egresslaw20.ScriptEncodes'. -/
def scriptEncodesUptoCard : Claim7 := { stood := { row := scriptEncodesUptoRow, standIns := [], harness := (true, "34856b060c484aa0c82c1941c2a8d1cb9d2c6ce7efa585cf8e4dc5de4e47c547"), looks := true }, kinds := [], alts := [], laidByText := true, laidKinds := [.data, .data, .data, .data, .sentinel, .sentinel, .pinned], laidTests := true, laidLooks := .later }
def ScriptEncodesUptoCardSaid : Prop := Claim7.holds Tryz.pinned (.plain (OpenSpec.upto scriptEncodesSpec)) scriptEncodesUptoCard
end Rows
end Go.Proofs.YtaggjikjohamjaaGreatDoor
