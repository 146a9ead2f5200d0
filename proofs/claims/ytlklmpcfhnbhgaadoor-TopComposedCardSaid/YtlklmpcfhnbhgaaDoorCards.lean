/-
  DERIVED. GIVEN WITH THE SEED: THE CARDS: each row of YtlklmpcfhnbhgaaDoorRows.lean that lists a variable, with what it lists TIED to the program's text (the seventh form; the later family's looks); each row that meets fmt, with fmt's text TOLD by the authors' own Lean function (tested against real Go, not proved from fmt's source: count such statements apart). THE CARD IS WHAT COUNTS. Prove the row's statement (the work); the ties are given (YtlklmpcfhnbhgaaDoorTie.lean); close each card by the builder's one call (the guide's Derived/Test/ToyasCard.lean, 'card_holds'). Laid BY PROGRAM, IN A SANDBOX (cutbox-door.mjs). By AI agents, Wed Nov 11 2026. No macro, syntax, notation, axiom, sorry.
-/
import Derived.Test.YtlklmpcfhnbhgaaDoorRows
import GoSem.ClaimSeven
namespace Go.Proofs.YtlklmpcfhnbhgaaDoor
namespace Rows

/-- THE TIED CARD OF 'sederunttop.TopComposed'. -/
def topComposedCard : Claim7 := { stood := { row := topComposedRow, standIns := [], harness := (true, "58e1ad7aad30908c5705faf2806c354e3d7f9790fe4351df8a1866907fe673a8"), looks := false }, kinds := [], alts := [], laidByText := true, laidKinds := [.data], laidTests := true, laidLooks := .later }
def TopComposedCardSaid : Prop := Claim7.holds Tryd.pinned (.plain (OpenSpec.ofChange topComposedSpec)) topComposedCard

/-- THE SECOND FORM's CARD OF 'sederunttop.TopComposed'. -/
def topComposedUptoCard : Claim7 := { stood := { row := topComposedUptoRow, standIns := [], harness := (true, "58e1ad7aad30908c5705faf2806c354e3d7f9790fe4351df8a1866907fe673a8"), looks := false }, kinds := [], alts := [], laidByText := true, laidKinds := [.data], laidTests := true, laidLooks := .later }
def TopComposedUptoCardSaid : Prop := Claim7.holds Tryd.pinned (.plain (OpenSpec.upto topComposedSpec)) topComposedUptoCard
end Rows
end Go.Proofs.YtlklmpcfhnbhgaaDoor
