/-
  DERIVED. GIVEN WITH THE SEED: THE CARDS: each row of YtfohgbcjhmmpeaaDoorRows.lean that lists a variable, with what it lists TIED to the program's text (the seventh form; the later family's looks); each row that meets fmt, with fmt's text TOLD by the authors' own Lean function (tested against real Go, not proved from fmt's source: count such statements apart). THE CARD IS WHAT COUNTS. Prove the row's statement (the work); the ties are given (YtfohgbcjhmmpeaaDoorTie.lean); close each card by the builder's one call (the guide's Derived/Test/ToyasCard.lean, 'card_holds'). Laid BY PROGRAM, IN A SANDBOX (cutbox-door.mjs). By AI agents, Wed Nov 11 2026. No macro, syntax, notation, axiom, sorry.
-/
import Derived.Test.YtfohgbcjhmmpeaaDoorRows
import GoSem.ClaimSeven
namespace Go.Proofs.YtfohgbcjhmmpeaaDoor
namespace Rows

/-- THE TIED CARD OF 'egresslaw01.GweiDivides'. -/
def gweiDividesCard : Claim7 := { stood := { row := gweiDividesRow, standIns := [], harness := (true, "efac09f55d5387c8ecc2335d3235d942035b71f7c5911ad69aa87bac50dfa359"), looks := false }, kinds := [], alts := [], laidByText := true, laidKinds := [.data, .data, .data], laidTests := true, laidLooks := .later }
def GweiDividesCardSaid : Prop := Claim7.holds Tryd.pinned (.plain (OpenSpec.ofChange gweiDividesSpec)) gweiDividesCard

/-- THE TIED CARD OF 'egresslaw01.GweiQuotients'. -/
def gweiQuotientsCard : Claim7 := { stood := { row := gweiQuotientsRow, standIns := [], harness := (true, "efac09f55d5387c8ecc2335d3235d942035b71f7c5911ad69aa87bac50dfa359"), looks := false }, kinds := [], alts := [], laidByText := true, laidKinds := [.data, .data, .data], laidTests := true, laidLooks := .later }
def GweiQuotientsCardSaid : Prop := Claim7.holds Tryd.pinned (.plain (OpenSpec.ofChange gweiQuotientsSpec)) gweiQuotientsCard

/-- THE TIED CARD OF 'egresslaw01.GweiCeils'. -/
def gweiCeilsCard : Claim7 := { stood := { row := gweiCeilsRow, standIns := [], harness := (true, "efac09f55d5387c8ecc2335d3235d942035b71f7c5911ad69aa87bac50dfa359"), looks := false }, kinds := [], alts := [], laidByText := true, laidKinds := [.data, .data, .data], laidTests := true, laidLooks := .later }
def GweiCeilsCardSaid : Prop := Claim7.holds Tryd.pinned (.plain (OpenSpec.ofChange gweiCeilsSpec)) gweiCeilsCard

/-- THE TIED CARD OF 'egresslaw01.GweiAdds'. -/
def gweiAddsCard : Claim7 := { stood := { row := gweiAddsRow, standIns := [], harness := (true, "efac09f55d5387c8ecc2335d3235d942035b71f7c5911ad69aa87bac50dfa359"), looks := false }, kinds := [], alts := [], laidByText := true, laidKinds := [.data, .data, .data], laidTests := true, laidLooks := .later }
def GweiAddsCardSaid : Prop := Claim7.holds Tryd.pinned (.plain (OpenSpec.ofChange gweiAddsSpec)) gweiAddsCard

/-- THE TIED CARD OF 'egresslaw01.GweiSubtracts'. -/
def gweiSubtractsCard : Claim7 := { stood := { row := gweiSubtractsRow, standIns := [], harness := (true, "efac09f55d5387c8ecc2335d3235d942035b71f7c5911ad69aa87bac50dfa359"), looks := false }, kinds := [], alts := [], laidByText := true, laidKinds := [.data, .data, .data], laidTests := true, laidLooks := .later }
def GweiSubtractsCardSaid : Prop := Claim7.holds Tryd.pinned (.plain (OpenSpec.ofChange gweiSubtractsSpec)) gweiSubtractsCard

/-- THE SECOND FORM's CARD OF 'egresslaw01.GweiDivides'. -/
def gweiDividesUptoCard : Claim7 := { stood := { row := gweiDividesUptoRow, standIns := [], harness := (true, "efac09f55d5387c8ecc2335d3235d942035b71f7c5911ad69aa87bac50dfa359"), looks := false }, kinds := [], alts := [], laidByText := true, laidKinds := [.data, .data, .data], laidTests := true, laidLooks := .later }
def GweiDividesUptoCardSaid : Prop := Claim7.holds Tryd.pinned (.plain (OpenSpec.upto gweiDividesSpec)) gweiDividesUptoCard

/-- THE SECOND FORM's CARD OF 'egresslaw01.GweiQuotients'. -/
def gweiQuotientsUptoCard : Claim7 := { stood := { row := gweiQuotientsUptoRow, standIns := [], harness := (true, "efac09f55d5387c8ecc2335d3235d942035b71f7c5911ad69aa87bac50dfa359"), looks := false }, kinds := [], alts := [], laidByText := true, laidKinds := [.data, .data, .data], laidTests := true, laidLooks := .later }
def GweiQuotientsUptoCardSaid : Prop := Claim7.holds Tryd.pinned (.plain (OpenSpec.upto gweiQuotientsSpec)) gweiQuotientsUptoCard

/-- THE SECOND FORM's CARD OF 'egresslaw01.GweiCeils'. -/
def gweiCeilsUptoCard : Claim7 := { stood := { row := gweiCeilsUptoRow, standIns := [], harness := (true, "efac09f55d5387c8ecc2335d3235d942035b71f7c5911ad69aa87bac50dfa359"), looks := false }, kinds := [], alts := [], laidByText := true, laidKinds := [.data, .data, .data], laidTests := true, laidLooks := .later }
def GweiCeilsUptoCardSaid : Prop := Claim7.holds Tryd.pinned (.plain (OpenSpec.upto gweiCeilsSpec)) gweiCeilsUptoCard

/-- THE SECOND FORM's CARD OF 'egresslaw01.GweiAdds'. -/
def gweiAddsUptoCard : Claim7 := { stood := { row := gweiAddsUptoRow, standIns := [], harness := (true, "efac09f55d5387c8ecc2335d3235d942035b71f7c5911ad69aa87bac50dfa359"), looks := false }, kinds := [], alts := [], laidByText := true, laidKinds := [.data, .data, .data], laidTests := true, laidLooks := .later }
def GweiAddsUptoCardSaid : Prop := Claim7.holds Tryd.pinned (.plain (OpenSpec.upto gweiAddsSpec)) gweiAddsUptoCard

/-- THE SECOND FORM's CARD OF 'egresslaw01.GweiSubtracts'. -/
def gweiSubtractsUptoCard : Claim7 := { stood := { row := gweiSubtractsUptoRow, standIns := [], harness := (true, "efac09f55d5387c8ecc2335d3235d942035b71f7c5911ad69aa87bac50dfa359"), looks := false }, kinds := [], alts := [], laidByText := true, laidKinds := [.data, .data, .data], laidTests := true, laidLooks := .later }
def GweiSubtractsUptoCardSaid : Prop := Claim7.holds Tryd.pinned (.plain (OpenSpec.upto gweiSubtractsSpec)) gweiSubtractsUptoCard
end Rows
end Go.Proofs.YtfohgbcjhmmpeaaDoor
