/- What the row of TraceFormat says of the program's text. -/
import Derived.Test.YtepbbaifpckcpaaGreatDoorCards
import Derived.Test.YtepbbaifpckcpaaGreatDoorTie
namespace Go.Proofs.YtepbbaifpckcpaaGreatDoor.traceFormatLaw

theorem cI : (Rows.traceFormatUptoRow.inPlace == Tryz.pinned.checked.prog.inPlace 8) = true := by kernel_rfl
theorem cU : (Rows.traceFormatUptoRow.unfollowed == Tryz.pinned.checked.prog.unfollowed 8) = true := by kernel_rfl
theorem cR : (Rows.traceFormatUptoRow.recurses == Tryz.pinned.checked.prog.recurses 8) = true := by kernel_rfl
theorem cN : (Rows.traceFormatUptoRow.named == Tryz.pinned.checked.prog.varsNamed 8) = true := by kernel_rfl
theorem closed : joinedFacts Tryz.pinned.checked.prog 8 Tryz.f8 (Rows.OpenSpec.upto Rows.traceFormatSpec).bare Rows.traceFormatUptoRow = true := by
  unfold joinedFacts
  rw [cI, cU, cR, cN]
  kernel_rfl
end Go.Proofs.YtepbbaifpckcpaaGreatDoor.traceFormatLaw
