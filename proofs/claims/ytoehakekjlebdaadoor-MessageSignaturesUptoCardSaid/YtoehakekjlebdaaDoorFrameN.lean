/- One start that fits: the library's variables as their initialisers lay them. -/
import Derived.Test.YtoehakekjlebdaaDoorFrameM
namespace Go.Proofs.YtoehakekjlebdaaDoor.frame
open Go.Joins Go.ChangeShapes Go.WideShapes Go.ChangeAt Go.RowKit Go.Deep

/-- a block with other cells -/
def lay (cs : Array Value) : Obj → Obj
  | .cells _ t frozen => .cells cs t frozen
  | o => o
def intsOf : DataW Unit → Array Value
  | .agg l => (l.map fun | .lit (.int k z) => Value.int k z | _ => Value.bool false).toArray
  | _ => #[]
noncomputable def base0 (os : Os) : World := World.holding Tryd.prog os ⟨#[], #[], []⟩
noncomputable def laidWorld (os : Os) : World :=
  { base0 os with heap := (((base0 os).heap.modify 0 (lay (intsOf Rows.laid_internal_strconv_uint64pow10))).modify 2 (lay (intsOf Rows.laid_math_bits_deBruijn32tab))).modify 3 (lay (intsOf Rows.laid_math_bits_deBruijn64tab)) }
theorem laid_met (os : Os) (args : Array Value) : laidMet Tryd.prog Rows.messageValidRow.laid ((laidWorld os).forCall (fun _ _ => 0) ⟨#[], args, []⟩).memory :=
  laidMet_of_run' 8 (by kernel_rfl) (by kernel_rfl)
end Go.Proofs.YtoehakekjlebdaaDoor.frame
