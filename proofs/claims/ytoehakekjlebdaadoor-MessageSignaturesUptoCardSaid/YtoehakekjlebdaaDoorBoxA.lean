/- A boxed argument: its cells stay while only new memory is made. -/
import Derived.Test.YtoehakekjlebdaaDoorBase
import Derived.Deep.RegionHeld3
import Derived.Deep.RegionWith
namespace Go.Proofs.YtoehakekjlebdaaDoor
open Go.RowKit

/-- behind the box of the cells cs only new memory has been made -/
def Bx (w : World) (cs : List Value) (T : TypeId) (w' : World) : Prop := Below (w.heap.size + 1) (w.alloc (.cells cs.toArray T)) w'
theorem bx_new (w : World) (cs : List Value) (T : TypeId) : Bx w cs T (w.alloc (.cells cs.toArray T)) := Below.refl _ _
theorem bx_low {w w' : World} {cs : List Value} {T : TypeId} (h : Bx w cs T w') : Below w.heap.size w w' := (below_new w _).trans (Below.mono h (by omega))
theorem bx_size {w w' : World} {cs : List Value} {T : TypeId} (h : Bx w cs T w') : w.heap.size + 1 ≤ w'.heap.size := by
  have := Below.size h; simpa using this
theorem bx_cell {w w' : World} {cs : List Value} {T : TypeId} (h : Bx w cs T w') (j : Nat) (v : Value) (hj : cs[j]? = some v) : w'.cell? ⟨w.heap.size, j, none⟩ = some v := by
  have h1 := Below.cell h (p := (⟨w.heap.size, 0, none⟩ : Addr).add j) (by rw [add_off]; simp)
  rw [cell_new w cs T w.heap.size rfl j v hj, add_off, Nat.zero_add] at h1
  exact h1
theorem bx_drew {w w' : World} {cs : List Value} {T : TypeId} (h : Bx w cs T w') : Bx w cs T w'.drew := Below.drew h
theorem bx_drewN {w w' : World} {cs : List Value} {T : TypeId} (h : Bx w cs T w') (n : Nat) : Bx w cs T (w'.drewN n) := bdN h n
theorem bx_alloc {w w' : World} {cs : List Value} {T : TypeId} (h : Bx w cs T w') (o : Obj) : Bx w cs T (w'.alloc o) := Below.alloc h (bx_size h) o
theorem bx_on {w w1 w2 : World} {cs : List Value} {T : TypeId} (h : Bx w cs T w1) (k : Below w1.heap.size w1 w2) : Bx w cs T w2 := Below.trans h (k.mono (bx_size h))
/-- a callee that gives a text and makes only new memory, behind a box -/
def Gives (w : World) (cs : List Value) (T : TypeId) (l : List UInt8) (e : Ending) (w' : World) : Prop := e = .returned (.string ⟨l.toArray⟩) ∧ Bx w cs T w'
theorem gives_of {P : Program} {k : FuncId} {args : Array Value} {w w1 : World} {cs : List Value} {T : TypeId} {l : List UInt8} (hb : Bx w cs T w1) (h : Calls P k args w1 (RetStr l w1)) : Calls P k args w1 (Gives w cs T l) :=
  h.mono fun _ _ ⟨he, hw⟩ => ⟨he, bx_on hb hw⟩
/-- a callee that gives a list of texts and makes only new memory, behind a box -/
def GivesStrs (w : World) (cs : List Value) (T : TypeId) (n : Nat) (l : List (List UInt8)) (e : Ending) (w' : World) : Prop := ∃ A c, e = .returned (.slice A n c) ∧ Rd w' 1 A n (strC l) ∧ Bx w cs T w'
theorem gives_strs {P : Program} {k : FuncId} {args : Array Value} {w w1 : World} {cs : List Value} {T : TypeId} {l : List (List UInt8)} (hb : Bx w cs T w1) {n : Nat} (h : Calls P k args w1 (RetStrs l w1)) (hn : l.length = n) : Calls P k args w1 (GivesStrs w cs T n l) :=
  h.mono fun _ _ ⟨A, c, he, hr, hw⟩ => ⟨A, c, by rw [he, hn], by rw [← hn]; exact hr, bx_on hb hw⟩
end Go.Proofs.YtoehakekjlebdaaDoor
