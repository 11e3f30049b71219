/-
  DERIVED. GIVEN WITH THE SEED: THE CARDS: each row of YthogepcblloaiaaDoorRows.lean that lists a variable, with what it lists TIED to the program's text (the seventh form; the later family's looks); each row that meets fmt, with fmt's text TOLD by the authors' own Lean function (tested against real Go, not proved from fmt's source: count such statements apart). THE CARD IS WHAT COUNTS. Prove the row's statement (the work); the ties are given (YthogepcblloaiaaDoorTie.lean); close each card by the builder's one call (the guide's Derived/Test/ToyasCard.lean, 'card_holds'). Laid BY PROGRAM, IN A SANDBOX (cutbox-door.mjs). By AI agents, Wed Nov 11 2026. No macro, syntax, notation, axiom, sorry.
-/
import Derived.Test.YthogepcblloaiaaDoorRows
import GoSem.ClaimSeven
namespace Go.Proofs.YthogepcblloaiaaDoor
namespace Rows

/-- THE TIED CARD OF 'egresslaw01.GweiStrings'. -/
def gweiStringsCard : Claim7 := { stood := { row := gweiStringsRow, standIns := [], harness := (true, "d849b3496b12cc2a15428df39fe10cb0887673685701ce31c44029bb4e4dfea8"), looks := true }, kinds := [], alts := [], laidByText := true, laidKinds := [.data, .data, .data, .sentinel, .sentinel], laidTests := true, laidLooks := .later }
def GweiStringsCardSaid : Prop := Claim7.holds Tryd.pinned (.plain (OpenSpec.ofChange gweiStringsSpec)) gweiStringsCard

/-- THE SECOND FORM's CARD OF 'egresslaw01.GweiStrings'. -/
def gweiStringsUptoCard : Claim7 := { stood := { row := gweiStringsUptoRow, standIns := [], harness := (true, "d849b3496b12cc2a15428df39fe10cb0887673685701ce31c44029bb4e4dfea8"), looks := true }, kinds := [], alts := [], laidByText := true, laidKinds := [.data, .data, .data, .sentinel, .sentinel], laidTests := true, laidLooks := .later }
def GweiStringsUptoCardSaid : Prop := Claim7.holds Tryd.pinned (.plain (OpenSpec.upto gweiStringsSpec)) gweiStringsUptoCard
end Rows
end Go.Proofs.YthogepcblloaiaaDoor
