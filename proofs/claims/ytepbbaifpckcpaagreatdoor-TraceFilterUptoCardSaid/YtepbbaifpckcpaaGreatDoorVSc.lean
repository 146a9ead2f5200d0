/- message.readMessage. -/
import Derived.Deep.Cut
import Derived.Deep.CutRange
import Derived.Test.YtepbbaifpckcpaaGreatDoorVSa
namespace Go.Proofs.YtepbbaifpckcpaaGreatDoor
open Go.RowKit
theorem infoMsn (x : Ms) : (Tryz.prog.info? 38).map (·.size) = some (msC x).length := by
 have : (Tryz.prog.info? 38).map (·.size) = some 21 := by kernel_rfl
 exact this
theorem msC_one' (x : Ms) : (msC x).toArray.all (·.oneCell') = true := by simp [msC, Sl.v, Value.oneCell']
end Go.Proofs.YtepbbaifpckcpaaGreatDoor
