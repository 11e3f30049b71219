/-
  DERIVED. GIVEN WITH THE SEED: THE CARDS: each row of YtffmcnaaaojgpaaDoorRows.lean that lists a variable, with what it lists TIED to the program's text (the seventh form; the later family's looks); each row that meets fmt, with fmt's text TOLD by the authors' own Lean function (tested against real Go, not proved from fmt's source: count such statements apart). THE CARD IS WHAT COUNTS. Prove the row's statement (the work); the ties are given (YtffmcnaaaojgpaaDoorTie.lean); close each card by the builder's one call (the guide's Derived/Test/ToyasCard.lean, 'card_holds'). Laid BY PROGRAM, IN A SANDBOX (cutbox-door.mjs). By AI agents, Wed Nov 11 2026. No macro, syntax, notation, axiom, sorry.
-/
import Derived.Test.YtffmcnaaaojgpaaDoorRows
import GoSem.ClaimSeven
namespace Go.Proofs.YtffmcnaaaojgpaaDoor
namespace Rows

/-- THE TIED CARD OF 'egresslaw21.ReceiptSame'. -/
def receiptSameCard : Claim7 := { stood := { row := receiptSameRow, standIns := [], harness := (true, "35757d4b984520c28700a87f77c4dab09239e22b3278a208a1fc674003341761"), looks := true }, kinds := [], alts := [], laidByText := true, laidKinds := [.data, .data, .data], laidTests := true, laidLooks := .later }
def ReceiptSameCardSaid : Prop := Claim7.holds Tryd.pinned (.plain (OpenSpec.ofChange receiptSameSpec)) receiptSameCard

/-- THE TIED CARD OF 'egresslaw21.ReceiptMakes'. -/
def receiptMakesCard : Claim7 := { stood := { row := receiptMakesRow, standIns := [], harness := (true, "35757d4b984520c28700a87f77c4dab09239e22b3278a208a1fc674003341761"), looks := true }, kinds := [], alts := [], laidByText := true, laidKinds := [.data, .data, .data], laidTests := true, laidLooks := .later }
def ReceiptMakesCardSaid : Prop := Claim7.holds Tryd.pinned (.plain (OpenSpec.ofChange receiptMakesSpec)) receiptMakesCard

/-- THE TIED CARD OF 'egresslaw21.ReceiptLines'. -/
def receiptLinesCard : Claim7 := { stood := { row := receiptLinesRow, standIns := [], harness := (true, "35757d4b984520c28700a87f77c4dab09239e22b3278a208a1fc674003341761"), looks := true }, kinds := [], alts := [], laidByText := true, laidKinds := [.data, .data, .data], laidTests := true, laidLooks := .later }
def ReceiptLinesCardSaid : Prop := Claim7.holds Tryd.pinned (.plain (OpenSpec.ofChange receiptLinesSpec)) receiptLinesCard

/-- THE TIED CARD OF 'egresslaw21.ReceiptApart'. -/
def receiptApartCard : Claim7 := { stood := { row := receiptApartRow, standIns := [], harness := (true, "35757d4b984520c28700a87f77c4dab09239e22b3278a208a1fc674003341761"), looks := true }, kinds := [], alts := [], laidByText := true, laidKinds := [.data, .data, .data], laidTests := true, laidLooks := .later }
def ReceiptApartCardSaid : Prop := Claim7.holds Tryd.pinned (.plain (OpenSpec.ofChange receiptApartSpec)) receiptApartCard

/-- THE TIED CARD OF 'egresslaw21.ReceiptClones'. -/
def receiptClonesCard : Claim7 := { stood := { row := receiptClonesRow, standIns := [], harness := (true, "35757d4b984520c28700a87f77c4dab09239e22b3278a208a1fc674003341761"), looks := true }, kinds := [], alts := [], laidByText := true, laidKinds := [.data, .data, .data], laidTests := true, laidLooks := .later }
def ReceiptClonesCardSaid : Prop := Claim7.holds Tryd.pinned (.plain (OpenSpec.ofChange receiptClonesSpec)) receiptClonesCard

/-- THE TIED CARD OF 'egresslaw21.ReceiptPays'. -/
def receiptPaysCard : Claim7 := { stood := { row := receiptPaysRow, standIns := [], harness := (true, "35757d4b984520c28700a87f77c4dab09239e22b3278a208a1fc674003341761"), looks := true }, kinds := [], alts := [], laidByText := true, laidKinds := [.data, .data, .data], laidTests := true, laidLooks := .later }
def ReceiptPaysCardSaid : Prop := Claim7.holds Tryd.pinned (.plain (OpenSpec.ofChange receiptPaysSpec)) receiptPaysCard

/-- THE TIED CARD OF 'egresslaw20.ScriptLines'. -/
def scriptLinesCard : Claim7 := { stood := { row := scriptLinesRow, standIns := [], harness := (true, "35757d4b984520c28700a87f77c4dab09239e22b3278a208a1fc674003341761"), looks := true }, kinds := [], alts := [], laidByText := true, laidKinds := [.data, .data, .data, .data, .sentinel, .sentinel, .pinned], laidTests := true, laidLooks := .later }
def ScriptLinesCardSaid : Prop := Claim7.holds Tryd.pinned (.plain (OpenSpec.ofChange scriptLinesSpec)) scriptLinesCard

/-- THE TIED CARD OF 'egresslaw20.ScriptParses'. -/
def scriptParsesCard : Claim7 := { stood := { row := scriptParsesRow, standIns := [], harness := (true, "35757d4b984520c28700a87f77c4dab09239e22b3278a208a1fc674003341761"), looks := true }, kinds := [], alts := [], laidByText := true, laidKinds := [.data, .data, .data, .data, .sentinel, .sentinel, .pinned], laidTests := true, laidLooks := .later }
def ScriptParsesCardSaid : Prop := Claim7.holds Tryd.pinned (.plain (OpenSpec.ofChange scriptParsesSpec)) scriptParsesCard

/-- THE TIED CARD OF 'egresslaw20.ScriptReads'. -/
def scriptReadsCard : Claim7 := { stood := { row := scriptReadsRow, standIns := [], harness := (true, "35757d4b984520c28700a87f77c4dab09239e22b3278a208a1fc674003341761"), looks := true }, kinds := [], alts := [], laidByText := true, laidKinds := [.data, .data, .data, .data, .sentinel, .sentinel, .pinned], laidTests := true, laidLooks := .later }
def ScriptReadsCardSaid : Prop := Claim7.holds Tryd.pinned (.plain (OpenSpec.ofChange scriptReadsSpec)) scriptReadsCard

/-- THE TIED CARD OF 'egresslaw20.ScriptDecodes'. -/
def scriptDecodesCard : Claim7 := { stood := { row := scriptDecodesRow, standIns := [], harness := (true, "35757d4b984520c28700a87f77c4dab09239e22b3278a208a1fc674003341761"), looks := true }, kinds := [], alts := [], laidByText := true, laidKinds := [.data, .data, .data, .data, .sentinel, .sentinel, .pinned], laidTests := true, laidLooks := .later }
def ScriptDecodesCardSaid : Prop := Claim7.holds Tryd.pinned (.plain (OpenSpec.ofChange scriptDecodesSpec)) scriptDecodesCard

/-- THE TIED CARD OF 'egresslaw20.ScriptCounts'. -/
def scriptCountsCard : Claim7 := { stood := { row := scriptCountsRow, standIns := [], harness := (true, "35757d4b984520c28700a87f77c4dab09239e22b3278a208a1fc674003341761"), looks := true }, kinds := [], alts := [], laidByText := true, laidKinds := [.data, .data, .data, .data, .sentinel, .sentinel, .pinned], laidTests := true, laidLooks := .later }
def ScriptCountsCardSaid : Prop := Claim7.holds Tryd.pinned (.plain (OpenSpec.ofChange scriptCountsSpec)) scriptCountsCard

/-- THE SECOND FORM's CARD OF 'egresslaw21.ReceiptSame'. -/
def receiptSameUptoCard : Claim7 := { stood := { row := receiptSameUptoRow, standIns := [], harness := (true, "35757d4b984520c28700a87f77c4dab09239e22b3278a208a1fc674003341761"), looks := true }, kinds := [], alts := [], laidByText := true, laidKinds := [.data, .data, .data], laidTests := true, laidLooks := .later }
def ReceiptSameUptoCardSaid : Prop := Claim7.holds Tryd.pinned (.plain (OpenSpec.upto receiptSameSpec)) receiptSameUptoCard

/-- THE SECOND FORM's CARD OF 'egresslaw21.ReceiptMakes'. -/
def receiptMakesUptoCard : Claim7 := { stood := { row := receiptMakesUptoRow, standIns := [], harness := (true, "35757d4b984520c28700a87f77c4dab09239e22b3278a208a1fc674003341761"), looks := true }, kinds := [], alts := [], laidByText := true, laidKinds := [.data, .data, .data], laidTests := true, laidLooks := .later }
def ReceiptMakesUptoCardSaid : Prop := Claim7.holds Tryd.pinned (.plain (OpenSpec.upto receiptMakesSpec)) receiptMakesUptoCard

/-- THE SECOND FORM's CARD OF 'egresslaw21.ReceiptLines'. -/
def receiptLinesUptoCard : Claim7 := { stood := { row := receiptLinesUptoRow, standIns := [], harness := (true, "35757d4b984520c28700a87f77c4dab09239e22b3278a208a1fc674003341761"), looks := true }, kinds := [], alts := [], laidByText := true, laidKinds := [.data, .data, .data], laidTests := true, laidLooks := .later }
def ReceiptLinesUptoCardSaid : Prop := Claim7.holds Tryd.pinned (.plain (OpenSpec.upto receiptLinesSpec)) receiptLinesUptoCard

/-- THE SECOND FORM's CARD OF 'egresslaw21.ReceiptApart'. -/
def receiptApartUptoCard : Claim7 := { stood := { row := receiptApartUptoRow, standIns := [], harness := (true, "35757d4b984520c28700a87f77c4dab09239e22b3278a208a1fc674003341761"), looks := true }, kinds := [], alts := [], laidByText := true, laidKinds := [.data, .data, .data], laidTests := true, laidLooks := .later }
def ReceiptApartUptoCardSaid : Prop := Claim7.holds Tryd.pinned (.plain (OpenSpec.upto receiptApartSpec)) receiptApartUptoCard

/-- THE SECOND FORM's CARD OF 'egresslaw21.ReceiptClones'. -/
def receiptClonesUptoCard : Claim7 := { stood := { row := receiptClonesUptoRow, standIns := [], harness := (true, "35757d4b984520c28700a87f77c4dab09239e22b3278a208a1fc674003341761"), looks := true }, kinds := [], alts := [], laidByText := true, laidKinds := [.data, .data, .data], laidTests := true, laidLooks := .later }
def ReceiptClonesUptoCardSaid : Prop := Claim7.holds Tryd.pinned (.plain (OpenSpec.upto receiptClonesSpec)) receiptClonesUptoCard

/-- THE SECOND FORM's CARD OF 'egresslaw21.ReceiptPays'. -/
def receiptPaysUptoCard : Claim7 := { stood := { row := receiptPaysUptoRow, standIns := [], harness := (true, "35757d4b984520c28700a87f77c4dab09239e22b3278a208a1fc674003341761"), looks := true }, kinds := [], alts := [], laidByText := true, laidKinds := [.data, .data, .data], laidTests := true, laidLooks := .later }
def ReceiptPaysUptoCardSaid : Prop := Claim7.holds Tryd.pinned (.plain (OpenSpec.upto receiptPaysSpec)) receiptPaysUptoCard

/-- THE SECOND FORM's CARD OF 'egresslaw20.ScriptLines'. -/
def scriptLinesUptoCard : Claim7 := { stood := { row := scriptLinesUptoRow, standIns := [], harness := (true, "35757d4b984520c28700a87f77c4dab09239e22b3278a208a1fc674003341761"), looks := true }, kinds := [], alts := [], laidByText := true, laidKinds := [.data, .data, .data, .data, .sentinel, .sentinel, .pinned], laidTests := true, laidLooks := .later }
def ScriptLinesUptoCardSaid : Prop := Claim7.holds Tryd.pinned (.plain (OpenSpec.upto scriptLinesSpec)) scriptLinesUptoCard

/-- THE SECOND FORM's CARD OF 'egresslaw20.ScriptParses'. -/
def scriptParsesUptoCard : Claim7 := { stood := { row := scriptParsesUptoRow, standIns := [], harness := (true, "35757d4b984520c28700a87f77c4dab09239e22b3278a208a1fc674003341761"), looks := true }, kinds := [], alts := [], laidByText := true, laidKinds := [.data, .data, .data, .data, .sentinel, .sentinel, .pinned], laidTests := true, laidLooks := .later }
def ScriptParsesUptoCardSaid : Prop := Claim7.holds Tryd.pinned (.plain (OpenSpec.upto scriptParsesSpec)) scriptParsesUptoCard

/-- THE SECOND FORM's CARD OF 'egresslaw20.ScriptReads'. -/
def scriptReadsUptoCard : Claim7 := { stood := { row := scriptReadsUptoRow, standIns := [], harness := (true, "35757d4b984520c28700a87f77c4dab09239e22b3278a208a1fc674003341761"), looks := true }, kinds := [], alts := [], laidByText := true, laidKinds := [.data, .data, .data, .data, .sentinel, .sentinel, .pinned], laidTests := true, laidLooks := .later }
def ScriptReadsUptoCardSaid : Prop := Claim7.holds Tryd.pinned (.plain (OpenSpec.upto scriptReadsSpec)) scriptReadsUptoCard

/-- THE SECOND FORM's CARD OF 'egresslaw20.ScriptDecodes'. -/
def scriptDecodesUptoCard : Claim7 := { stood := { row := scriptDecodesUptoRow, standIns := [], harness := (true, "35757d4b984520c28700a87f77c4dab09239e22b3278a208a1fc674003341761"), looks := true }, kinds := [], alts := [], laidByText := true, laidKinds := [.data, .data, .data, .data, .sentinel, .sentinel, .pinned], laidTests := true, laidLooks := .later }
def ScriptDecodesUptoCardSaid : Prop := Claim7.holds Tryd.pinned (.plain (OpenSpec.upto scriptDecodesSpec)) scriptDecodesUptoCard

/-- THE SECOND FORM's CARD OF 'egresslaw20.ScriptCounts'. -/
def scriptCountsUptoCard : Claim7 := { stood := { row := scriptCountsUptoRow, standIns := [], harness := (true, "35757d4b984520c28700a87f77c4dab09239e22b3278a208a1fc674003341761"), looks := true }, kinds := [], alts := [], laidByText := true, laidKinds := [.data, .data, .data, .data, .sentinel, .sentinel, .pinned], laidTests := true, laidLooks := .later }
def ScriptCountsUptoCardSaid : Prop := Claim7.holds Tryd.pinned (.plain (OpenSpec.upto scriptCountsSpec)) scriptCountsUptoCard
end Rows
end Go.Proofs.YtffmcnaaaojgpaaDoor
