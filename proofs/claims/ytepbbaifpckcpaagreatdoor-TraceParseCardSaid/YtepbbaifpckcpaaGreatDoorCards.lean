/-
  DERIVED. GIVEN WITH THE SEED: THE CARDS: each row of YtepbbaifpckcpaaGreatDoorRows.lean that lists a variable, with what it lists TIED to the program's text (the seventh form; the later family's looks); each row that meets fmt, with fmt's text TOLD by the authors' own Lean function (tested against real Go, not proved from fmt's source: count such statements apart). THE CARD IS WHAT COUNTS. Prove the row's statement (the work); the ties are given (YtepbbaifpckcpaaGreatDoorTie.lean); close each card by the builder's one call (the guide's Derived/Test/ToyasCard.lean, 'card_holds'). Laid BY PROGRAM, IN A SANDBOX (cutbox-door.mjs). By AI agents, Wed Nov 11 2026. No macro, syntax, notation, axiom, sorry.
-/
import Derived.Test.YtepbbaifpckcpaaGreatDoorRows
import GoSem.ClaimSeven
namespace Go.Proofs.YtepbbaifpckcpaaGreatDoor
namespace Rows

/-- THE TIED CARD OF 'sederuntlaw53.TraceValid'. -/
def traceValidCard : Claim7 := { stood := { row := traceValidRow, standIns := [], harness := (true, "48696a52b5f8100295e96c21d6aebfe4620be00bbbe3e16eaab3adef39a8aa6b"), looks := true }, kinds := [], alts := [], laidByText := true, laidKinds := [.data, .data, .data, .data, .sentinel, .sentinel, .mapped, .pinned], laidTests := true, laidLooks := .later }
def TraceValidCardSaid : Prop := Claim7.holds Tryz.pinned (.plain (OpenSpec.ofChange traceValidSpec)) traceValidCard

/-- THE TIED CARD OF 'sederuntlaw53.TraceOperations'. -/
def traceOperationsCard : Claim7 := { stood := { row := traceOperationsRow, standIns := [], harness := (true, "48696a52b5f8100295e96c21d6aebfe4620be00bbbe3e16eaab3adef39a8aa6b"), looks := true }, kinds := [], alts := [], laidByText := true, laidKinds := [.data, .data, .data, .data, .sentinel, .sentinel, .mapped, .pinned], laidTests := true, laidLooks := .later }
def TraceOperationsCardSaid : Prop := Claim7.holds Tryz.pinned (.plain (OpenSpec.ofChange traceOperationsSpec)) traceOperationsCard

/-- THE TIED CARD OF 'sederuntlaw53.TraceFilter'. -/
def traceFilterCard : Claim7 := { stood := { row := traceFilterRow, standIns := [], harness := (true, "48696a52b5f8100295e96c21d6aebfe4620be00bbbe3e16eaab3adef39a8aa6b"), looks := true }, kinds := [], alts := [], laidByText := true, laidKinds := [.data, .data, .data, .data, .sentinel, .sentinel, .mapped, .pinned], laidTests := true, laidLooks := .later }
def TraceFilterCardSaid : Prop := Claim7.holds Tryz.pinned (.plain (OpenSpec.ofChange traceFilterSpec)) traceFilterCard

/-- THE TIED CARD OF 'sederuntlaw53.TraceLogs'. -/
def traceLogsCard : Claim7 := { stood := { row := traceLogsRow, standIns := [], harness := (true, "48696a52b5f8100295e96c21d6aebfe4620be00bbbe3e16eaab3adef39a8aa6b"), looks := true }, kinds := [], alts := [], laidByText := true, laidKinds := [.data, .data, .data, .data, .sentinel, .sentinel, .mapped, .pinned], laidTests := true, laidLooks := .later }
def TraceLogsCardSaid : Prop := Claim7.holds Tryz.pinned (.plain (OpenSpec.ofChange traceLogsSpec)) traceLogsCard

/-- THE TIED CARD OF 'sederuntlaw53.TraceParts'. -/
def tracePartsCard : Claim7 := { stood := { row := tracePartsRow, standIns := [], harness := (true, "48696a52b5f8100295e96c21d6aebfe4620be00bbbe3e16eaab3adef39a8aa6b"), looks := true }, kinds := [], alts := [], laidByText := true, laidKinds := [.data, .data, .data, .data, .sentinel, .sentinel, .mapped, .pinned], laidTests := true, laidLooks := .later }
def TracePartsCardSaid : Prop := Claim7.holds Tryz.pinned (.plain (OpenSpec.ofChange tracePartsSpec)) tracePartsCard

/-- THE TIED CARD OF 'sederuntlaw53.TraceFormat'. -/
def traceFormatCard : Claim7 := { stood := { row := traceFormatRow, standIns := [], harness := (true, "48696a52b5f8100295e96c21d6aebfe4620be00bbbe3e16eaab3adef39a8aa6b"), looks := true }, kinds := [], alts := [], laidByText := true, laidKinds := [.data, .data, .data, .data, .sentinel, .sentinel, .mapped, .pinned], laidTests := true, laidLooks := .later }
def TraceFormatCardSaid : Prop := Claim7.holds Tryz.pinned (.plain (OpenSpec.ofChange traceFormatSpec)) traceFormatCard

/-- THE TIED CARD OF 'sederuntlaw53.TraceParse'. -/
def traceParseCard : Claim7 := { stood := { row := traceParseRow, standIns := [], harness := (true, "48696a52b5f8100295e96c21d6aebfe4620be00bbbe3e16eaab3adef39a8aa6b"), looks := true }, kinds := [], alts := [], laidByText := true, laidKinds := [.data, .data, .data, .data, .sentinel, .sentinel, .mapped, .pinned], laidTests := true, laidLooks := .later }
def TraceParseCardSaid : Prop := Claim7.holds Tryz.pinned (.plain (OpenSpec.ofChange traceParseSpec)) traceParseCard

/-- THE SECOND FORM's CARD OF 'sederuntlaw53.TraceValid'. -/
def traceValidUptoCard : Claim7 := { stood := { row := traceValidUptoRow, standIns := [], harness := (true, "48696a52b5f8100295e96c21d6aebfe4620be00bbbe3e16eaab3adef39a8aa6b"), looks := true }, kinds := [], alts := [], laidByText := true, laidKinds := [.data, .data, .data, .data, .sentinel, .sentinel, .mapped, .pinned], laidTests := true, laidLooks := .later }
def TraceValidUptoCardSaid : Prop := Claim7.holds Tryz.pinned (.plain (OpenSpec.upto traceValidSpec)) traceValidUptoCard

/-- THE SECOND FORM's CARD OF 'sederuntlaw53.TraceOperations'. -/
def traceOperationsUptoCard : Claim7 := { stood := { row := traceOperationsUptoRow, standIns := [], harness := (true, "48696a52b5f8100295e96c21d6aebfe4620be00bbbe3e16eaab3adef39a8aa6b"), looks := true }, kinds := [], alts := [], laidByText := true, laidKinds := [.data, .data, .data, .data, .sentinel, .sentinel, .mapped, .pinned], laidTests := true, laidLooks := .later }
def TraceOperationsUptoCardSaid : Prop := Claim7.holds Tryz.pinned (.plain (OpenSpec.upto traceOperationsSpec)) traceOperationsUptoCard

/-- THE SECOND FORM's CARD OF 'sederuntlaw53.TraceFilter'. -/
def traceFilterUptoCard : Claim7 := { stood := { row := traceFilterUptoRow, standIns := [], harness := (true, "48696a52b5f8100295e96c21d6aebfe4620be00bbbe3e16eaab3adef39a8aa6b"), looks := true }, kinds := [], alts := [], laidByText := true, laidKinds := [.data, .data, .data, .data, .sentinel, .sentinel, .mapped, .pinned], laidTests := true, laidLooks := .later }
def TraceFilterUptoCardSaid : Prop := Claim7.holds Tryz.pinned (.plain (OpenSpec.upto traceFilterSpec)) traceFilterUptoCard

/-- THE SECOND FORM's CARD OF 'sederuntlaw53.TraceLogs'. -/
def traceLogsUptoCard : Claim7 := { stood := { row := traceLogsUptoRow, standIns := [], harness := (true, "48696a52b5f8100295e96c21d6aebfe4620be00bbbe3e16eaab3adef39a8aa6b"), looks := true }, kinds := [], alts := [], laidByText := true, laidKinds := [.data, .data, .data, .data, .sentinel, .sentinel, .mapped, .pinned], laidTests := true, laidLooks := .later }
def TraceLogsUptoCardSaid : Prop := Claim7.holds Tryz.pinned (.plain (OpenSpec.upto traceLogsSpec)) traceLogsUptoCard

/-- THE SECOND FORM's CARD OF 'sederuntlaw53.TraceParts'. -/
def tracePartsUptoCard : Claim7 := { stood := { row := tracePartsUptoRow, standIns := [], harness := (true, "48696a52b5f8100295e96c21d6aebfe4620be00bbbe3e16eaab3adef39a8aa6b"), looks := true }, kinds := [], alts := [], laidByText := true, laidKinds := [.data, .data, .data, .data, .sentinel, .sentinel, .mapped, .pinned], laidTests := true, laidLooks := .later }
def TracePartsUptoCardSaid : Prop := Claim7.holds Tryz.pinned (.plain (OpenSpec.upto tracePartsSpec)) tracePartsUptoCard

/-- THE SECOND FORM's CARD OF 'sederuntlaw53.TraceFormat'. -/
def traceFormatUptoCard : Claim7 := { stood := { row := traceFormatUptoRow, standIns := [], harness := (true, "48696a52b5f8100295e96c21d6aebfe4620be00bbbe3e16eaab3adef39a8aa6b"), looks := true }, kinds := [], alts := [], laidByText := true, laidKinds := [.data, .data, .data, .data, .sentinel, .sentinel, .mapped, .pinned], laidTests := true, laidLooks := .later }
def TraceFormatUptoCardSaid : Prop := Claim7.holds Tryz.pinned (.plain (OpenSpec.upto traceFormatSpec)) traceFormatUptoCard

/-- THE SECOND FORM's CARD OF 'sederuntlaw53.TraceParse'. -/
def traceParseUptoCard : Claim7 := { stood := { row := traceParseUptoRow, standIns := [], harness := (true, "48696a52b5f8100295e96c21d6aebfe4620be00bbbe3e16eaab3adef39a8aa6b"), looks := true }, kinds := [], alts := [], laidByText := true, laidKinds := [.data, .data, .data, .data, .sentinel, .sentinel, .mapped, .pinned], laidTests := true, laidLooks := .later }
def TraceParseUptoCardSaid : Prop := Claim7.holds Tryz.pinned (.plain (OpenSpec.upto traceParseSpec)) traceParseUptoCard
end Rows
end Go.Proofs.YtepbbaifpckcpaaGreatDoor
