/-
  DERIVED. GIVEN WITH THE SEED: THE CARDS: each row of YthmoplkleopahaaDoorRows.lean that lists a variable, with what it lists TIED to the program's text (the seventh form; the later family's looks); each row that meets fmt, with fmt's text TOLD by the authors' own Lean function (tested against real Go, not proved from fmt's source: count such statements apart). THE CARD IS WHAT COUNTS. Prove the row's statement (the work); the ties are given (YthmoplkleopahaaDoorTie.lean); close each card by the builder's one call (the guide's Derived/Test/ToyasCard.lean, 'card_holds'). Laid BY PROGRAM, IN A SANDBOX (cutbox-door.mjs). By AI agents, Wed Nov 11 2026. No macro, syntax, notation, axiom, sorry.
-/
import Derived.Test.YthmoplkleopahaaDoorRows
import GoSem.ClaimSeven
namespace Go.Proofs.YthmoplkleopahaaDoor
namespace Rows

/-- THE TIED CARD OF 'sederuntlaw40.EntryValid'. -/
def entryValidCard : Claim7 := { stood := { row := entryValidRow, standIns := [], harness := (true, "04bb7fbe8e951ff81394d2f472ffa586f7a39d63e8f19d9e1dc12da56948e1b0"), looks := true }, kinds := [], alts := [], laidByText := true, laidKinds := [.data, .data, .data, .sentinel, .sentinel], laidTests := true, laidLooks := .later }
def EntryValidCardSaid : Prop := Claim7.holds Tryd.pinned (.plain (OpenSpec.ofChange entryValidSpec)) entryValidCard

/-- THE TIED CARD OF 'sederuntlaw40.EntryRestored'. -/
def entryRestoredCard : Claim7 := { stood := { row := entryRestoredRow, standIns := [], harness := (true, "04bb7fbe8e951ff81394d2f472ffa586f7a39d63e8f19d9e1dc12da56948e1b0"), looks := true }, kinds := [], alts := [], laidByText := true, laidKinds := [.data, .data, .data, .sentinel, .sentinel], laidTests := true, laidLooks := .later }
def EntryRestoredCardSaid : Prop := Claim7.holds Tryd.pinned (.plain (OpenSpec.ofChange entryRestoredSpec)) entryRestoredCard

/-- THE TIED CARD OF 'sederuntlaw40.EntryDecode'. -/
def entryDecodeCard : Claim7 := { stood := { row := entryDecodeRow, standIns := [], harness := (true, "04bb7fbe8e951ff81394d2f472ffa586f7a39d63e8f19d9e1dc12da56948e1b0"), looks := true }, kinds := [], alts := [], laidByText := true, laidKinds := [.data, .data, .data, .sentinel, .sentinel], laidTests := true, laidLooks := .later }
def EntryDecodeCardSaid : Prop := Claim7.holds Tryd.pinned (.plain (OpenSpec.ofChange entryDecodeSpec)) entryDecodeCard

/-- THE TIED CARD OF 'sederuntlaw40.EntryShow'. -/
def entryShowCard : Claim7 := { stood := { row := entryShowRow, standIns := [], harness := (true, "04bb7fbe8e951ff81394d2f472ffa586f7a39d63e8f19d9e1dc12da56948e1b0"), looks := true }, kinds := [], alts := [], laidByText := true, laidKinds := [.data, .data, .data, .sentinel, .sentinel], laidTests := true, laidLooks := .later }
def EntryShowCardSaid : Prop := Claim7.holds Tryd.pinned (.plain (OpenSpec.ofChange entryShowSpec)) entryShowCard

/-- THE TIED CARD OF 'sederuntlaw40.EntryDifferent'. -/
def entryDifferentCard : Claim7 := { stood := { row := entryDifferentRow, standIns := [], harness := (true, "04bb7fbe8e951ff81394d2f472ffa586f7a39d63e8f19d9e1dc12da56948e1b0"), looks := true }, kinds := [], alts := [], laidByText := true, laidKinds := [.data, .data, .data, .sentinel, .sentinel], laidTests := true, laidLooks := .later }
def EntryDifferentCardSaid : Prop := Claim7.holds Tryd.pinned (.plain (OpenSpec.ofChange entryDifferentSpec)) entryDifferentCard

/-- THE TIED CARD OF 'sederuntlaw40.EntryBatches'. -/
def entryBatchesCard : Claim7 := { stood := { row := entryBatchesRow, standIns := [], harness := (true, "04bb7fbe8e951ff81394d2f472ffa586f7a39d63e8f19d9e1dc12da56948e1b0"), looks := true }, kinds := [], alts := [], laidByText := true, laidKinds := [.data, .data, .data, .sentinel, .sentinel], laidTests := true, laidLooks := .later }
def EntryBatchesCardSaid : Prop := Claim7.holds Tryd.pinned (.plain (OpenSpec.ofChange entryBatchesSpec)) entryBatchesCard

/-- THE TIED CARD OF 'sederuntlaw40.EntryParts'. -/
def entryPartsCard : Claim7 := { stood := { row := entryPartsRow, standIns := [], harness := (true, "04bb7fbe8e951ff81394d2f472ffa586f7a39d63e8f19d9e1dc12da56948e1b0"), looks := true }, kinds := [], alts := [], laidByText := true, laidKinds := [.data, .data, .data, .sentinel, .sentinel], laidTests := true, laidLooks := .later }
def EntryPartsCardSaid : Prop := Claim7.holds Tryd.pinned (.plain (OpenSpec.ofChange entryPartsSpec)) entryPartsCard

/-- THE TIED CARD OF 'sederuntlaw40.EntryFresh'. -/
def entryFreshCard : Claim7 := { stood := { row := entryFreshRow, standIns := [], harness := (true, "04bb7fbe8e951ff81394d2f472ffa586f7a39d63e8f19d9e1dc12da56948e1b0"), looks := true }, kinds := [], alts := [], laidByText := true, laidKinds := [.data, .data, .data, .sentinel, .sentinel], laidTests := true, laidLooks := .later }
def EntryFreshCardSaid : Prop := Claim7.holds Tryd.pinned (.plain (OpenSpec.ofChange entryFreshSpec)) entryFreshCard

/-- THE SECOND FORM's CARD OF 'sederuntlaw40.EntryValid'. -/
def entryValidUptoCard : Claim7 := { stood := { row := entryValidUptoRow, standIns := [], harness := (true, "04bb7fbe8e951ff81394d2f472ffa586f7a39d63e8f19d9e1dc12da56948e1b0"), looks := true }, kinds := [], alts := [], laidByText := true, laidKinds := [.data, .data, .data, .sentinel, .sentinel], laidTests := true, laidLooks := .later }
def EntryValidUptoCardSaid : Prop := Claim7.holds Tryd.pinned (.plain (OpenSpec.upto entryValidSpec)) entryValidUptoCard

/-- THE SECOND FORM's CARD OF 'sederuntlaw40.EntryRestored'. -/
def entryRestoredUptoCard : Claim7 := { stood := { row := entryRestoredUptoRow, standIns := [], harness := (true, "04bb7fbe8e951ff81394d2f472ffa586f7a39d63e8f19d9e1dc12da56948e1b0"), looks := true }, kinds := [], alts := [], laidByText := true, laidKinds := [.data, .data, .data, .sentinel, .sentinel], laidTests := true, laidLooks := .later }
def EntryRestoredUptoCardSaid : Prop := Claim7.holds Tryd.pinned (.plain (OpenSpec.upto entryRestoredSpec)) entryRestoredUptoCard

/-- THE SECOND FORM's CARD OF 'sederuntlaw40.EntryDecode'. -/
def entryDecodeUptoCard : Claim7 := { stood := { row := entryDecodeUptoRow, standIns := [], harness := (true, "04bb7fbe8e951ff81394d2f472ffa586f7a39d63e8f19d9e1dc12da56948e1b0"), looks := true }, kinds := [], alts := [], laidByText := true, laidKinds := [.data, .data, .data, .sentinel, .sentinel], laidTests := true, laidLooks := .later }
def EntryDecodeUptoCardSaid : Prop := Claim7.holds Tryd.pinned (.plain (OpenSpec.upto entryDecodeSpec)) entryDecodeUptoCard

/-- THE SECOND FORM's CARD OF 'sederuntlaw40.EntryShow'. -/
def entryShowUptoCard : Claim7 := { stood := { row := entryShowUptoRow, standIns := [], harness := (true, "04bb7fbe8e951ff81394d2f472ffa586f7a39d63e8f19d9e1dc12da56948e1b0"), looks := true }, kinds := [], alts := [], laidByText := true, laidKinds := [.data, .data, .data, .sentinel, .sentinel], laidTests := true, laidLooks := .later }
def EntryShowUptoCardSaid : Prop := Claim7.holds Tryd.pinned (.plain (OpenSpec.upto entryShowSpec)) entryShowUptoCard

/-- THE SECOND FORM's CARD OF 'sederuntlaw40.EntryDifferent'. -/
def entryDifferentUptoCard : Claim7 := { stood := { row := entryDifferentUptoRow, standIns := [], harness := (true, "04bb7fbe8e951ff81394d2f472ffa586f7a39d63e8f19d9e1dc12da56948e1b0"), looks := true }, kinds := [], alts := [], laidByText := true, laidKinds := [.data, .data, .data, .sentinel, .sentinel], laidTests := true, laidLooks := .later }
def EntryDifferentUptoCardSaid : Prop := Claim7.holds Tryd.pinned (.plain (OpenSpec.upto entryDifferentSpec)) entryDifferentUptoCard

/-- THE SECOND FORM's CARD OF 'sederuntlaw40.EntryBatches'. -/
def entryBatchesUptoCard : Claim7 := { stood := { row := entryBatchesUptoRow, standIns := [], harness := (true, "04bb7fbe8e951ff81394d2f472ffa586f7a39d63e8f19d9e1dc12da56948e1b0"), looks := true }, kinds := [], alts := [], laidByText := true, laidKinds := [.data, .data, .data, .sentinel, .sentinel], laidTests := true, laidLooks := .later }
def EntryBatchesUptoCardSaid : Prop := Claim7.holds Tryd.pinned (.plain (OpenSpec.upto entryBatchesSpec)) entryBatchesUptoCard

/-- THE SECOND FORM's CARD OF 'sederuntlaw40.EntryParts'. -/
def entryPartsUptoCard : Claim7 := { stood := { row := entryPartsUptoRow, standIns := [], harness := (true, "04bb7fbe8e951ff81394d2f472ffa586f7a39d63e8f19d9e1dc12da56948e1b0"), looks := true }, kinds := [], alts := [], laidByText := true, laidKinds := [.data, .data, .data, .sentinel, .sentinel], laidTests := true, laidLooks := .later }
def EntryPartsUptoCardSaid : Prop := Claim7.holds Tryd.pinned (.plain (OpenSpec.upto entryPartsSpec)) entryPartsUptoCard

/-- THE SECOND FORM's CARD OF 'sederuntlaw40.EntryFresh'. -/
def entryFreshUptoCard : Claim7 := { stood := { row := entryFreshUptoRow, standIns := [], harness := (true, "04bb7fbe8e951ff81394d2f472ffa586f7a39d63e8f19d9e1dc12da56948e1b0"), looks := true }, kinds := [], alts := [], laidByText := true, laidKinds := [.data, .data, .data, .sentinel, .sentinel], laidTests := true, laidLooks := .later }
def EntryFreshUptoCardSaid : Prop := Claim7.holds Tryd.pinned (.plain (OpenSpec.upto entryFreshSpec)) entryFreshUptoCard
end Rows
end Go.Proofs.YthmoplkleopahaaDoor
