/- Two signatures against each other. -/
import Derived.Test.YtoehakekjlebdaaDoorBoxA
import Derived.Test.YtoehakekjlebdaaDoorValP
import Derived.Laws.StructEq
import Derived.Shelf.SlicesQ.Contains
namespace Go.Proofs.YtoehakekjlebdaaDoor
open Go.RowKit Go.Shelf Go.Lib

set_option maxHeartbeats 2000000 in
theorem run_sg (x y : Sg) (w : World) : (Op.equalIn 10000 23 (.agg #[.int .i64 x.server, .int .i64 x.kind, .int .i64 x.view, .int .i64 x.slot, .string ⟨x.digest.toArray⟩, .string ⟨x.sig.toArray⟩]) (.agg #[.int .i64 y.server, .int .i64 y.kind, .int .i64 y.view, .int .i64 y.slot, .string ⟨y.digest.toArray⟩, .string ⟨y.sig.toArray⟩])).run Tryd.prog w = .ok (decide (x = y)) w := by
  have u3 := Tryd.underlying3
  have i3 := Tryd.isAgg3
  have z3 := Tryd.sizeOf3
  have u9 := Tryd.underlying9
  have a9 := Tryd.isAgg9
  have z9 := Tryd.sizeOf9
  have hS : Tryd.prog.underlying 23 = some (.struct (Tryd.prog.fieldsOf 23)) := by kernel_rfl
  have hp : Tryd.prog.stoodInHeld 23 = false := by kernel_rfl
  rw [show (10000 : Nat) = 9999 + 1 from rfl, run_equalIn_agg w 9999 23 _ _ hS hp]
  simp only [Program.fieldsOf, Tryd.underlying23]
  go_simp
  obtain ⟨a1, a2, a3, a4, a5, a6⟩ := x
  obtain ⟨b1, b2, b3, b4, b5, b6⟩ := y
  by_cases h1 : a1 = b1 <;> by_cases h2 : a2 = b2 <;> by_cases h3 : a3 = b3 <;> by_cases h4 : a4 = b4 <;> by_cases h5 : a5 = b5 <;> by_cases h6 : a6 = b6 <;> simp [h1, h2, h3, h4, h5, h6]
theorem run_ne_sg (x : Sg) (w : World) : (binOp .neq 23 (.agg #[.int .i64 x.server, .int .i64 x.kind, .int .i64 x.view, .int .i64 x.slot, .string ⟨x.digest.toArray⟩, .string ⟨x.sig.toArray⟩]) (.agg #[.int .i64 0, .int .i64 0, .int .i64 0, .int .i64 0, .string ⟨#[]⟩, .string ⟨#[]⟩])).run Tryd.prog w = .ok (.bool (!sgZero x)) w := by
  rw [run_neq_struct]
  have h := run_sg x ⟨0, 0, 0, 0, [], []⟩ w
  rw [show (#[.int .i64 0, .int .i64 0, .int .i64 0, .int .i64 0, .string ⟨#[]⟩, .string ⟨#[]⟩] : Array Value) = #[.int .i64 (⟨0, 0, 0, 0, [], []⟩ : Sg).server, .int .i64 (⟨0, 0, 0, 0, [], []⟩ : Sg).kind, .int .i64 (⟨0, 0, 0, 0, [], []⟩ : Sg).view, .int .i64 (⟨0, 0, 0, 0, [], []⟩ : Sg).slot, .string ⟨(⟨0, 0, 0, 0, [], []⟩ : Sg).digest.toArray⟩, .string ⟨(⟨0, 0, 0, 0, [], []⟩ : Sg).sig.toArray⟩] from rfl, h]
  rfl
end Go.Proofs.YtoehakekjlebdaaDoor
