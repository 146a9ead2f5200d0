/-
  DERIVED. GIVEN WITH THE SEED: THE CARDS: each row of YtoehakekjlebdaaDoorRows.lean that lists a variable, with what it lists TIED to the program's text (the seventh form; the later family's looks); each row that meets fmt, with fmt's text TOLD by the authors' own Lean function (tested against real Go, not proved from fmt's source: count such statements apart). THE CARD IS WHAT COUNTS. Prove the row's statement (the work); the ties are given (YtoehakekjlebdaaDoorTie.lean); close each card by the builder's one call (the guide's Derived/Test/ToyasCard.lean, 'card_holds'). Laid BY PROGRAM, IN A SANDBOX (cutbox-door.mjs). By AI agents, Wed Nov 11 2026. No macro, syntax, notation, axiom, sorry.
-/
import Derived.Test.YtoehakekjlebdaaDoorRows
import GoSem.ClaimSeven
namespace Go.Proofs.YtoehakekjlebdaaDoor
namespace Rows

/-- THE TIED CARD OF 'sederuntlaw35.MessageValid'. -/
def messageValidCard : Claim7 := { stood := { row := messageValidRow, standIns := [], harness := (true, "393a1f55ac24d052864b78a5efb6a646ec7e674d549b0e088bc481d07be42bce"), looks := false }, kinds := [], alts := [], laidByText := true, laidKinds := [.data, .data, .data], laidTests := true, laidLooks := .later }
def MessageValidCardSaid : Prop := Claim7.holds Tryd.pinned (.plain (OpenSpec.ofChange messageValidSpec)) messageValidCard

/-- THE TIED CARD OF 'sederuntlaw35.MessageEqual'. -/
def messageEqualCard : Claim7 := { stood := { row := messageEqualRow, standIns := [], harness := (true, "393a1f55ac24d052864b78a5efb6a646ec7e674d549b0e088bc481d07be42bce"), looks := false }, kinds := [], alts := [], laidByText := true, laidKinds := [.data, .data, .data], laidTests := true, laidLooks := .later }
def MessageEqualCardSaid : Prop := Claim7.holds Tryd.pinned (.plain (OpenSpec.ofChange messageEqualSpec)) messageEqualCard

/-- THE TIED CARD OF 'sederuntlaw35.MessageSignatures'. -/
def messageSignaturesCard : Claim7 := { stood := { row := messageSignaturesRow, standIns := [], harness := (true, "393a1f55ac24d052864b78a5efb6a646ec7e674d549b0e088bc481d07be42bce"), looks := false }, kinds := [], alts := [], laidByText := true, laidKinds := [.data, .data, .data], laidTests := true, laidLooks := .later }
def MessageSignaturesCardSaid : Prop := Claim7.holds Tryd.pinned (.plain (OpenSpec.ofChange messageSignaturesSpec)) messageSignaturesCard

/-- THE SECOND FORM's CARD OF 'sederuntlaw35.MessageValid'. -/
def messageValidUptoCard : Claim7 := { stood := { row := messageValidUptoRow, standIns := [], harness := (true, "393a1f55ac24d052864b78a5efb6a646ec7e674d549b0e088bc481d07be42bce"), looks := false }, kinds := [], alts := [], laidByText := true, laidKinds := [.data, .data, .data], laidTests := true, laidLooks := .later }
def MessageValidUptoCardSaid : Prop := Claim7.holds Tryd.pinned (.plain (OpenSpec.upto messageValidSpec)) messageValidUptoCard

/-- THE SECOND FORM's CARD OF 'sederuntlaw35.MessageEqual'. -/
def messageEqualUptoCard : Claim7 := { stood := { row := messageEqualUptoRow, standIns := [], harness := (true, "393a1f55ac24d052864b78a5efb6a646ec7e674d549b0e088bc481d07be42bce"), looks := false }, kinds := [], alts := [], laidByText := true, laidKinds := [.data, .data, .data], laidTests := true, laidLooks := .later }
def MessageEqualUptoCardSaid : Prop := Claim7.holds Tryd.pinned (.plain (OpenSpec.upto messageEqualSpec)) messageEqualUptoCard

/-- THE SECOND FORM's CARD OF 'sederuntlaw35.MessageSignatures'. -/
def messageSignaturesUptoCard : Claim7 := { stood := { row := messageSignaturesUptoRow, standIns := [], harness := (true, "393a1f55ac24d052864b78a5efb6a646ec7e674d549b0e088bc481d07be42bce"), looks := false }, kinds := [], alts := [], laidByText := true, laidKinds := [.data, .data, .data], laidTests := true, laidLooks := .later }
def MessageSignaturesUptoCardSaid : Prop := Claim7.holds Tryd.pinned (.plain (OpenSpec.upto messageSignaturesSpec)) messageSignaturesUptoCard
end Rows
end Go.Proofs.YtoehakekjlebdaaDoor
