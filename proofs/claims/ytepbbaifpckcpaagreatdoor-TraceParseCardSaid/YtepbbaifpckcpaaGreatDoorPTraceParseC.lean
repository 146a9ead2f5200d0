/- What the row of TraceParse says of the program's text. -/
import Derived.Test.YtepbbaifpckcpaaGreatDoorCards
import Derived.Test.YtepbbaifpckcpaaGreatDoorTie
namespace Go.Proofs.YtepbbaifpckcpaaGreatDoor.traceParseLaw
theorem cI:(Rows.traceParseRow.inPlace == Tryz.pinned.checked.prog.inPlace 9)=true:=by kernel_rfl
theorem cU:(Rows.traceParseRow.unfollowed == Tryz.pinned.checked.prog.unfollowed 9)=true:=by kernel_rfl
theorem cR:(Rows.traceParseRow.recurses == Tryz.pinned.checked.prog.recurses 9)=true:=by kernel_rfl
theorem cN:(Rows.traceParseRow.named == Tryz.pinned.checked.prog.varsNamed 9)=true:=by kernel_rfl
theorem closed:joinedFacts Tryz.pinned.checked.prog 9 Tryz.f9 (OpenSpec.ofChange Rows.traceParseSpec).bare Rows.traceParseRow=true:=by
 unfold joinedFacts;rw[cI,cU,cR,cN];kernel_rfl
