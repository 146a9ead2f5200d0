/- One start that fits: the library's variables as their initialisers lay them. -/
import Derived.Test.YthmoplkleopahaaDoorFrameA
namespace Go.Proofs.YthmoplkleopahaaDoor.frame
open Go.Joins Go.ChangeShapes Go.WideShapes Go.ChangeAt Go.RowKit Go.Deep

/-- a block with other cells -/
def lay (cs : Array Value) : Obj → Obj
  | .cells _ t frozen => .cells cs t frozen
  | o => o
def intsOf : DataW Unit → Array Value
  | .agg l => (l.map fun | .lit (.int k z) => Value.int k z | _ => Value.bool false).toArray
  | _ => #[]
def synS : ByteArray := { data := #[105, 110, 118, 97, 108, 105, 100, 32, 115, 121, 110, 116, 97, 120] }
def rngS : ByteArray := { data := #[118, 97, 108, 117, 101, 32, 111, 117, 116, 32, 111, 102, 32, 114, 97, 110, 103, 101] }
/-- so many blocks has the settled world -/
noncomputable def low : Nat := (World.holding Tryd.prog default ⟨#[], #[], []⟩).heap.size
noncomputable def base0 (os : Os) : World := World.holding Tryd.prog os ⟨#[.cells #[.string synS] 113, .cells #[.string rngS] 113], #[], []⟩
noncomputable def laidWorld (os : Os) : World :=
  { base0 os with heap := (((((base0 os).heap.modify 0 (lay #[.iface 111 (.pointer (some ⟨low, 0, none⟩))])).modify 1 (lay #[.iface 111 (.pointer (some ⟨low + 1, 0, none⟩))])).modify
      2 (lay (intsOf Rows.laid_internal_strconv_uint64pow10))).modify 4 (lay (intsOf Rows.laid_math_bits_deBruijn32tab))).modify 5 (lay (intsOf Rows.laid_math_bits_deBruijn64tab)) }
theorem laid_met (os : Os) (args : Array Value) : laidMet Tryd.prog Rows.entryValidRow.laid ((laidWorld os).forCall (fun _ _ => 0) ⟨#[], args, []⟩).memory :=
  laidMet_of_run' 8 (by kernel_rfl) (by kernel_rfl)
end Go.Proofs.YthmoplkleopahaaDoor.frame
