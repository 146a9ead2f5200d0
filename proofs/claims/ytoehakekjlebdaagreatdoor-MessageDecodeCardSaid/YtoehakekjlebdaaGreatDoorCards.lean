/-
  DERIVED. GIVEN WITH THE SEED: THE CARDS: each row of YtoehakekjlebdaaGreatDoorRows.lean that lists a variable, with what it lists TIED to the program's text (the seventh form; the later family's looks); each row that meets fmt, with fmt's text TOLD by the authors' own Lean function (tested against real Go, not proved from fmt's source: count such statements apart). THE CARD IS WHAT COUNTS. Prove the row's statement (the work); the ties are given (YtoehakekjlebdaaGreatDoorTie.lean); close each card by the builder's one call (the guide's Derived/Test/ToyasCard.lean, 'card_holds'). Laid BY PROGRAM, IN A SANDBOX (cutbox-door.mjs). By AI agents, Wed Nov 11 2026. No macro, syntax, notation, axiom, sorry.
-/
import Derived.Test.YtoehakekjlebdaaGreatDoorRows
import GoSem.ClaimSeven
namespace Go.Proofs.YtoehakekjlebdaaGreatDoor
namespace Rows

/-- THE TIED CARD OF 'sederuntlaw35.MessageStatus'. -/
def messageStatusCard : Claim7 := { stood := { row := messageStatusRow, standIns := [], harness := (true, "679632678931dcbec24b3bacb9412f6bf384aaeb58e997fbdfd5b320f8a5cb4b"), looks := false }, kinds := [], alts := [], laidByText := true, laidKinds := [.data, .data, .data], laidTests := true, laidLooks := .later }
def MessageStatusCardSaid : Prop := Claim7.holds Tryz.pinned (.plain (OpenSpec.ofChange messageStatusSpec)) messageStatusCard

/-- THE TIED CARD OF 'sederuntlaw35.MessageDecodeStatus'. -/
def messageDecodeStatusCard : Claim7 := { stood := { row := messageDecodeStatusRow, standIns := [], harness := (true, "679632678931dcbec24b3bacb9412f6bf384aaeb58e997fbdfd5b320f8a5cb4b"), looks := false }, kinds := [], alts := [], laidByText := true, laidKinds := [.data, .data, .data], laidTests := true, laidLooks := .later }
def MessageDecodeStatusCardSaid : Prop := Claim7.holds Tryz.pinned (.plain (OpenSpec.ofChange messageDecodeStatusSpec)) messageDecodeStatusCard

/-- THE TIED CARD OF 'sederuntlaw35.MessageEncode'. -/
def messageEncodeCard : Claim7 := { stood := { row := messageEncodeRow, standIns := [], harness := (true, "679632678931dcbec24b3bacb9412f6bf384aaeb58e997fbdfd5b320f8a5cb4b"), looks := false }, kinds := [], alts := [], laidByText := true, laidKinds := [.data, .data, .data], laidTests := true, laidLooks := .later }
def MessageEncodeCardSaid : Prop := Claim7.holds Tryz.pinned (.plain (OpenSpec.ofChange messageEncodeSpec)) messageEncodeCard

/-- THE TIED CARD OF 'sederuntlaw35.MessageDecode'. -/
def messageDecodeCard : Claim7 := { stood := { row := messageDecodeRow, standIns := [], harness := (true, "679632678931dcbec24b3bacb9412f6bf384aaeb58e997fbdfd5b320f8a5cb4b"), looks := false }, kinds := [], alts := [], laidByText := true, laidKinds := [.data, .data, .data], laidTests := true, laidLooks := .later }
def MessageDecodeCardSaid : Prop := Claim7.holds Tryz.pinned (.plain (OpenSpec.ofChange messageDecodeSpec)) messageDecodeCard

/-- THE SECOND FORM's CARD OF 'sederuntlaw35.MessageStatus'. -/
def messageStatusUptoCard : Claim7 := { stood := { row := messageStatusUptoRow, standIns := [], harness := (true, "679632678931dcbec24b3bacb9412f6bf384aaeb58e997fbdfd5b320f8a5cb4b"), looks := false }, kinds := [], alts := [], laidByText := true, laidKinds := [.data, .data, .data], laidTests := true, laidLooks := .later }
def MessageStatusUptoCardSaid : Prop := Claim7.holds Tryz.pinned (.plain (OpenSpec.upto messageStatusSpec)) messageStatusUptoCard

/-- THE SECOND FORM's CARD OF 'sederuntlaw35.MessageDecodeStatus'. -/
def messageDecodeStatusUptoCard : Claim7 := { stood := { row := messageDecodeStatusUptoRow, standIns := [], harness := (true, "679632678931dcbec24b3bacb9412f6bf384aaeb58e997fbdfd5b320f8a5cb4b"), looks := false }, kinds := [], alts := [], laidByText := true, laidKinds := [.data, .data, .data], laidTests := true, laidLooks := .later }
def MessageDecodeStatusUptoCardSaid : Prop := Claim7.holds Tryz.pinned (.plain (OpenSpec.upto messageDecodeStatusSpec)) messageDecodeStatusUptoCard

/-- THE SECOND FORM's CARD OF 'sederuntlaw35.MessageEncode'. -/
def messageEncodeUptoCard : Claim7 := { stood := { row := messageEncodeUptoRow, standIns := [], harness := (true, "679632678931dcbec24b3bacb9412f6bf384aaeb58e997fbdfd5b320f8a5cb4b"), looks := false }, kinds := [], alts := [], laidByText := true, laidKinds := [.data, .data, .data], laidTests := true, laidLooks := .later }
def MessageEncodeUptoCardSaid : Prop := Claim7.holds Tryz.pinned (.plain (OpenSpec.upto messageEncodeSpec)) messageEncodeUptoCard

/-- THE SECOND FORM's CARD OF 'sederuntlaw35.MessageDecode'. -/
def messageDecodeUptoCard : Claim7 := { stood := { row := messageDecodeUptoRow, standIns := [], harness := (true, "679632678931dcbec24b3bacb9412f6bf384aaeb58e997fbdfd5b320f8a5cb4b"), looks := false }, kinds := [], alts := [], laidByText := true, laidKinds := [.data, .data, .data], laidTests := true, laidLooks := .later }
def MessageDecodeUptoCardSaid : Prop := Claim7.holds Tryz.pinned (.plain (OpenSpec.upto messageDecodeSpec)) messageDecodeUptoCard
end Rows
end Go.Proofs.YtoehakekjlebdaaGreatDoor
