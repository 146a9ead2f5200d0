/-
  DERIVED. GIVEN WITH THE SEED: THE CARDS: each row of YtikpcebhcnjkhaaGreatDoorRows.lean that lists a variable, with what it lists TIED to the program's text (the seventh form; the later family's looks); each row that meets fmt, with fmt's text TOLD by the authors' own Lean function (tested against real Go, not proved from fmt's source: count such statements apart). THE CARD IS WHAT COUNTS. Prove the row's statement (the work); the ties are given (YtikpcebhcnjkhaaGreatDoorTie.lean); close each card by the builder's one call (the guide's Derived/Test/ToyasCard.lean, 'card_holds'). Laid BY PROGRAM, IN A SANDBOX (cutbox-door.mjs). By AI agents, Wed Nov 11 2026. No macro, syntax, notation, axiom, sorry.
-/
import Derived.Test.YtikpcebhcnjkhaaGreatDoorRows
import GoSem.ClaimSeven
namespace Go.Proofs.YtikpcebhcnjkhaaGreatDoor
namespace Rows

/-- THE TIED CARD OF 'sederuntlaw51.AdversaryValid'. -/
def adversaryValidCard : Claim7 := { stood := { row := adversaryValidRow, standIns := [], harness := (true, "5e0da4c8ec3f53f1f3e404e5cf51a5f97d714821221bd6a33428286f4b99bceb"), looks := true }, kinds := [], alts := [], laidByText := true, laidKinds := [.data, .data, .data], laidTests := true, laidLooks := .later }
def AdversaryValidCardSaid : Prop := Claim7.holds Tryz.pinned (.plain (OpenSpec.ofChange adversaryValidSpec)) adversaryValidCard

/-- THE TIED CARD OF 'sederuntlaw51.AdversaryHonest'. -/
def adversaryHonestCard : Claim7 := { stood := { row := adversaryHonestRow, standIns := [], harness := (true, "5e0da4c8ec3f53f1f3e404e5cf51a5f97d714821221bd6a33428286f4b99bceb"), looks := true }, kinds := [], alts := [], laidByText := true, laidKinds := [.data, .data, .data], laidTests := true, laidLooks := .later }
def AdversaryHonestCardSaid : Prop := Claim7.holds Tryz.pinned (.plain (OpenSpec.ofChange adversaryHonestSpec)) adversaryHonestCard

/-- THE TIED CARD OF 'sederuntlaw51.AdversaryDecode'. -/
def adversaryDecodeCard : Claim7 := { stood := { row := adversaryDecodeRow, standIns := [], harness := (true, "5e0da4c8ec3f53f1f3e404e5cf51a5f97d714821221bd6a33428286f4b99bceb"), looks := true }, kinds := [], alts := [], laidByText := true, laidKinds := [.data, .data, .data], laidTests := true, laidLooks := .later }
def AdversaryDecodeCardSaid : Prop := Claim7.holds Tryz.pinned (.plain (OpenSpec.ofChange adversaryDecodeSpec)) adversaryDecodeCard

/-- THE TIED CARD OF 'sederuntlaw51.AdversarySee'. -/
def adversarySeeCard : Claim7 := { stood := { row := adversarySeeRow, standIns := [], harness := (true, "5e0da4c8ec3f53f1f3e404e5cf51a5f97d714821221bd6a33428286f4b99bceb"), looks := true }, kinds := [], alts := [], laidByText := true, laidKinds := [.data, .data, .data, .sentinel, .sentinel], laidTests := true, laidLooks := .later }
def AdversarySeeCardSaid : Prop := Claim7.holds Tryz.pinned (.plain (OpenSpec.ofChange adversarySeeSpec)) adversarySeeCard

/-- THE SECOND FORM's CARD OF 'sederuntlaw51.AdversaryValid'. -/
def adversaryValidUptoCard : Claim7 := { stood := { row := adversaryValidUptoRow, standIns := [], harness := (true, "5e0da4c8ec3f53f1f3e404e5cf51a5f97d714821221bd6a33428286f4b99bceb"), looks := true }, kinds := [], alts := [], laidByText := true, laidKinds := [.data, .data, .data], laidTests := true, laidLooks := .later }
def AdversaryValidUptoCardSaid : Prop := Claim7.holds Tryz.pinned (.plain (OpenSpec.upto adversaryValidSpec)) adversaryValidUptoCard

/-- THE SECOND FORM's CARD OF 'sederuntlaw51.AdversaryHonest'. -/
def adversaryHonestUptoCard : Claim7 := { stood := { row := adversaryHonestUptoRow, standIns := [], harness := (true, "5e0da4c8ec3f53f1f3e404e5cf51a5f97d714821221bd6a33428286f4b99bceb"), looks := true }, kinds := [], alts := [], laidByText := true, laidKinds := [.data, .data, .data], laidTests := true, laidLooks := .later }
def AdversaryHonestUptoCardSaid : Prop := Claim7.holds Tryz.pinned (.plain (OpenSpec.upto adversaryHonestSpec)) adversaryHonestUptoCard

/-- THE SECOND FORM's CARD OF 'sederuntlaw51.AdversaryDecode'. -/
def adversaryDecodeUptoCard : Claim7 := { stood := { row := adversaryDecodeUptoRow, standIns := [], harness := (true, "5e0da4c8ec3f53f1f3e404e5cf51a5f97d714821221bd6a33428286f4b99bceb"), looks := true }, kinds := [], alts := [], laidByText := true, laidKinds := [.data, .data, .data], laidTests := true, laidLooks := .later }
def AdversaryDecodeUptoCardSaid : Prop := Claim7.holds Tryz.pinned (.plain (OpenSpec.upto adversaryDecodeSpec)) adversaryDecodeUptoCard

/-- THE SECOND FORM's CARD OF 'sederuntlaw51.AdversarySee'. -/
def adversarySeeUptoCard : Claim7 := { stood := { row := adversarySeeUptoRow, standIns := [], harness := (true, "5e0da4c8ec3f53f1f3e404e5cf51a5f97d714821221bd6a33428286f4b99bceb"), looks := true }, kinds := [], alts := [], laidByText := true, laidKinds := [.data, .data, .data, .sentinel, .sentinel], laidTests := true, laidLooks := .later }
def AdversarySeeUptoCardSaid : Prop := Claim7.holds Tryz.pinned (.plain (OpenSpec.upto adversarySeeSpec)) adversarySeeUptoCard
end Rows
end Go.Proofs.YtikpcebhcnjkhaaGreatDoor
