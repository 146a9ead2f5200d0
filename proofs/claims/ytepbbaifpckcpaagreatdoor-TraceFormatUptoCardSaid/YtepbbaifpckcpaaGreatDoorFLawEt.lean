/- Is a text the value of an entry? -/
import Derived.Test.YtepbbaifpckcpaaGreatDoorFFo
import Derived.Test.YtepbbaifpckcpaaGreatDoorFPl
import Derived.Test.YtepbbaifpckcpaaGreatDoorFTa
import Derived.Test.YtepbbaifpckcpaaGreatDoorFEb
import Derived.Test.YtepbbaifpckcpaaGreatDoorFEe
namespace Go.Proofs.YtepbbaifpckcpaaGreatDoor
set_option maxRecDepth 100000
open Go.RowKit
noncomputable def entB (s:List UInt8):Bool:=(Q40.decE s).isSome
theorem env40 {w:World} (h:Env w):Q40.Env w:=⟨h.pow,h.syn,h.rng⟩
theorem isEntry_any (s:List UInt8) (w:World) (he:Env w) (hs:s.length≤1048576):Calls Tryz.prog 60 #[.string ⟨s.toArray⟩] w (zC (entB s) w):=by
 have HD:=hD (Q40.decode_any s w (env40 he) hs);clear he;exact fo49
theorem refEnt53_any (s:List UInt8) (w:World) (hs:s.length≤1048576):Calls Tryz.prog 65 #[.string ⟨s.toArray⟩] w (zC (entB s) w):=by
 have HD:=hD (Q40.refDecode_any s w hs);exact fo49
def EnA (F:Nat) (E:List UInt8→Bool) (w:World):Prop:=∀t W,t.length≤1048576→Below w.heap.size w W→Calls Tryz.prog F #[.string ⟨t.toArray⟩] W (zC (E t) W)
theorem enA_tr {w:World} (he:Env w):EnA 60 entB w:=fun t W ht hb=>isEntry_any t W (he.below hb) ht
theorem enA_ref (w:World):EnA 65 entB w:=fun t W ht _=>refEnt53_any t W ht
theorem EnA.below {F:Nat} {E:List UInt8→Bool} {w w':World} (h:EnA F E w) (hb:Below w.heap.size w w'):EnA F E w':=fun t W ht hW=>h t W ht (bon hb hW)
end Go.Proofs.YtepbbaifpckcpaaGreatDoor
