/- A boxed argument: one of the two PutInts. -/
import Derived.Test.YtoehakekjlebdaaDoorBoxA
import Derived.Test.YtoehakekjlebdaaDoorWireR
import Derived.Test.YtoehakekjlebdaaDoorMsgP
namespace Go.Proofs.YtoehakekjlebdaaDoor
open Go.RowKit

/-- one of the two PutInts on a new list -/
theorem gives_ints {P : Program} {k : FuncId} {w w1 : World} {cs : List Value} {T : TypeId} (l : List Int) (hl : l.length ≤ 100) (hi : ∀ n ∈ l, I64 n)
    (hc : ∀ (A : Option Addr) (c : Nat) (w : World), Rd w 1 A l.length (intC l) → Calls P k #[.slice A l.length c] w (RetStr (putInts l) w)) (hb : Bx w cs T (w1.alloc (.cells (intC l).toArray 3)).drew) {g : Nat} (hg : w1.heap.size = g) :
    Calls P k #[.slice (some ⟨g, 0, none⟩) l.length l.length] (w1.alloc (.cells (intC l).toArray 3)).drew (Gives w cs T (putInts l)) :=
  hg ▸ gives_of hb (hc _ _ _ ((rd_new w1 1 l.length (intC l) 3 (by simp [intC])).below (Below.refl _ _).drew))
end Go.Proofs.YtoehakekjlebdaaDoor
