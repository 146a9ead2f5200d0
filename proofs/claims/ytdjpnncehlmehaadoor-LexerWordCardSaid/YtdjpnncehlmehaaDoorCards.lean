/-
  DERIVED. GIVEN WITH THE SEED: THE CARDS: each row of YtdjpnncehlmehaaDoorRows.lean that lists a variable, with what it lists TIED to the program's text (the seventh form; the later family's looks); each row that meets fmt, with fmt's text TOLD by the authors' own Lean function (tested against real Go, not proved from fmt's source: count such statements apart). THE CARD IS WHAT COUNTS. Prove the row's statement (the work); the ties are given (YtdjpnncehlmehaaDoorTie.lean); close each card by the builder's one call (the guide's Derived/Test/ToyasCard.lean, 'card_holds'). Laid BY PROGRAM, IN A SANDBOX (cutbox-door.mjs). By AI agents, Wed Nov 11 2026. No macro, syntax, notation, axiom, sorry.
-/
import Derived.Test.YtdjpnncehlmehaaDoorRows
import GoSem.ClaimSeven
namespace Go.Proofs.YtdjpnncehlmehaaDoor
namespace Rows

/-- THE TIED CARD OF 'sederuntlaw06.LexerTokens'. -/
def lexerTokensCard : Claim7 := { stood := { row := lexerTokensRow, standIns := [], harness := (true, "7fad89f67242b32848b1aa6b3d6080e2793efe858fa409d51bf5d56c14c92b44"), looks := false }, kinds := [], alts := [], laidByText := true, laidKinds := [.data, .pinned], laidTests := true, laidLooks := .later }
def LexerTokensCardSaid : Prop := Claim7.holds Tryd.pinned (.plain (OpenSpec.ofChange lexerTokensSpec)) lexerTokensCard

/-- THE TIED CARD OF 'sederuntlaw06.LexerQuote'. -/
def lexerQuoteCard : Claim7 := { stood := { row := lexerQuoteRow, standIns := [], harness := (true, "7fad89f67242b32848b1aa6b3d6080e2793efe858fa409d51bf5d56c14c92b44"), looks := false }, kinds := [], alts := [], laidByText := true, laidKinds := [.data, .pinned], laidTests := true, laidLooks := .later }
def LexerQuoteCardSaid : Prop := Claim7.holds Tryd.pinned (.plain (OpenSpec.ofChange lexerQuoteSpec)) lexerQuoteCard

/-- THE TIED CARD OF 'sederuntlaw06.LexerUnquote'. -/
def lexerUnquoteCard : Claim7 := { stood := { row := lexerUnquoteRow, standIns := [], harness := (true, "7fad89f67242b32848b1aa6b3d6080e2793efe858fa409d51bf5d56c14c92b44"), looks := false }, kinds := [], alts := [], laidByText := true, laidKinds := [.data, .pinned], laidTests := true, laidLooks := .later }
def LexerUnquoteCardSaid : Prop := Claim7.holds Tryd.pinned (.plain (OpenSpec.ofChange lexerUnquoteSpec)) lexerUnquoteCard

/-- THE TIED CARD OF 'sederuntlaw06.LexerLines'. -/
def lexerLinesCard : Claim7 := { stood := { row := lexerLinesRow, standIns := [], harness := (true, "7fad89f67242b32848b1aa6b3d6080e2793efe858fa409d51bf5d56c14c92b44"), looks := false }, kinds := [], alts := [], laidByText := true, laidKinds := [.data, .pinned], laidTests := true, laidLooks := .later }
def LexerLinesCardSaid : Prop := Claim7.holds Tryd.pinned (.plain (OpenSpec.ofChange lexerLinesSpec)) lexerLinesCard

/-- THE TIED CARD OF 'sederuntlaw06.LexerNames'. -/
def lexerNamesCard : Claim7 := { stood := { row := lexerNamesRow, standIns := [], harness := (true, "7fad89f67242b32848b1aa6b3d6080e2793efe858fa409d51bf5d56c14c92b44"), looks := false }, kinds := [], alts := [], laidByText := true, laidKinds := [.data, .pinned], laidTests := true, laidLooks := .later }
def LexerNamesCardSaid : Prop := Claim7.holds Tryd.pinned (.plain (OpenSpec.ofChange lexerNamesSpec)) lexerNamesCard

/-- THE TIED CARD OF 'sederuntlaw06.LexerFields'. -/
def lexerFieldsCard : Claim7 := { stood := { row := lexerFieldsRow, standIns := [], harness := (true, "7fad89f67242b32848b1aa6b3d6080e2793efe858fa409d51bf5d56c14c92b44"), looks := false }, kinds := [], alts := [], laidByText := true, laidKinds := [.data, .pinned], laidTests := true, laidLooks := .later }
def LexerFieldsCardSaid : Prop := Claim7.holds Tryd.pinned (.plain (OpenSpec.ofChange lexerFieldsSpec)) lexerFieldsCard

/-- THE TIED CARD OF 'sederuntlaw06.LexerWord'. -/
def lexerWordCard : Claim7 := { stood := { row := lexerWordRow, standIns := [], harness := (true, "7fad89f67242b32848b1aa6b3d6080e2793efe858fa409d51bf5d56c14c92b44"), looks := false }, kinds := [], alts := [], laidByText := true, laidKinds := [.data, .data, .data, .data, .pinned], laidTests := true, laidLooks := .later }
def LexerWordCardSaid : Prop := Claim7.holds Tryd.pinned (.plain (OpenSpec.ofChange lexerWordSpec)) lexerWordCard

/-- THE SECOND FORM's CARD OF 'sederuntlaw06.LexerTokens'. -/
def lexerTokensUptoCard : Claim7 := { stood := { row := lexerTokensUptoRow, standIns := [], harness := (true, "7fad89f67242b32848b1aa6b3d6080e2793efe858fa409d51bf5d56c14c92b44"), looks := false }, kinds := [], alts := [], laidByText := true, laidKinds := [.data, .pinned], laidTests := true, laidLooks := .later }
def LexerTokensUptoCardSaid : Prop := Claim7.holds Tryd.pinned (.plain (OpenSpec.upto lexerTokensSpec)) lexerTokensUptoCard

/-- THE SECOND FORM's CARD OF 'sederuntlaw06.LexerQuote'. -/
def lexerQuoteUptoCard : Claim7 := { stood := { row := lexerQuoteUptoRow, standIns := [], harness := (true, "7fad89f67242b32848b1aa6b3d6080e2793efe858fa409d51bf5d56c14c92b44"), looks := false }, kinds := [], alts := [], laidByText := true, laidKinds := [.data, .pinned], laidTests := true, laidLooks := .later }
def LexerQuoteUptoCardSaid : Prop := Claim7.holds Tryd.pinned (.plain (OpenSpec.upto lexerQuoteSpec)) lexerQuoteUptoCard

/-- THE SECOND FORM's CARD OF 'sederuntlaw06.LexerUnquote'. -/
def lexerUnquoteUptoCard : Claim7 := { stood := { row := lexerUnquoteUptoRow, standIns := [], harness := (true, "7fad89f67242b32848b1aa6b3d6080e2793efe858fa409d51bf5d56c14c92b44"), looks := false }, kinds := [], alts := [], laidByText := true, laidKinds := [.data, .pinned], laidTests := true, laidLooks := .later }
def LexerUnquoteUptoCardSaid : Prop := Claim7.holds Tryd.pinned (.plain (OpenSpec.upto lexerUnquoteSpec)) lexerUnquoteUptoCard

/-- THE SECOND FORM's CARD OF 'sederuntlaw06.LexerLines'. -/
def lexerLinesUptoCard : Claim7 := { stood := { row := lexerLinesUptoRow, standIns := [], harness := (true, "7fad89f67242b32848b1aa6b3d6080e2793efe858fa409d51bf5d56c14c92b44"), looks := false }, kinds := [], alts := [], laidByText := true, laidKinds := [.data, .pinned], laidTests := true, laidLooks := .later }
def LexerLinesUptoCardSaid : Prop := Claim7.holds Tryd.pinned (.plain (OpenSpec.upto lexerLinesSpec)) lexerLinesUptoCard

/-- THE SECOND FORM's CARD OF 'sederuntlaw06.LexerNames'. -/
def lexerNamesUptoCard : Claim7 := { stood := { row := lexerNamesUptoRow, standIns := [], harness := (true, "7fad89f67242b32848b1aa6b3d6080e2793efe858fa409d51bf5d56c14c92b44"), looks := false }, kinds := [], alts := [], laidByText := true, laidKinds := [.data, .pinned], laidTests := true, laidLooks := .later }
def LexerNamesUptoCardSaid : Prop := Claim7.holds Tryd.pinned (.plain (OpenSpec.upto lexerNamesSpec)) lexerNamesUptoCard

/-- THE SECOND FORM's CARD OF 'sederuntlaw06.LexerFields'. -/
def lexerFieldsUptoCard : Claim7 := { stood := { row := lexerFieldsUptoRow, standIns := [], harness := (true, "7fad89f67242b32848b1aa6b3d6080e2793efe858fa409d51bf5d56c14c92b44"), looks := false }, kinds := [], alts := [], laidByText := true, laidKinds := [.data, .pinned], laidTests := true, laidLooks := .later }
def LexerFieldsUptoCardSaid : Prop := Claim7.holds Tryd.pinned (.plain (OpenSpec.upto lexerFieldsSpec)) lexerFieldsUptoCard

/-- THE SECOND FORM's CARD OF 'sederuntlaw06.LexerWord'. -/
def lexerWordUptoCard : Claim7 := { stood := { row := lexerWordUptoRow, standIns := [], harness := (true, "7fad89f67242b32848b1aa6b3d6080e2793efe858fa409d51bf5d56c14c92b44"), looks := false }, kinds := [], alts := [], laidByText := true, laidKinds := [.data, .data, .data, .data, .pinned], laidTests := true, laidLooks := .later }
def LexerWordUptoCardSaid : Prop := Claim7.holds Tryd.pinned (.plain (OpenSpec.upto lexerWordSpec)) lexerWordUptoCard
end Rows
end Go.Proofs.YtdjpnncehlmehaaDoor
