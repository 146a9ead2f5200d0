/- Bytes that came in; the table of trailing zeros. -/
import Derived.Test.YtikpcebhcnjkhaaGreatDoorDPl
import Derived.Test.YtikpcebhcnjkhaaGreatDoorDFrameQ
import Derived.Test.YtikpcebhcnjkhaaGreatDoorDPa
namespace Go.Proofs.YtikpcebhcnjkhaaGreatDoor.frame
open Go.Joins Go.ChangeShapes Go.WideShapes Go.ChangeAt Go.RowKit Go.Deep
set_option maxRecDepth 100000 in
theorem tbE_of {W : World} (h : Lib.TabIs Tryz.prog W "math/bits.deBruijn32tab" .u8 tabZ) : TbE W := fun j hj => h.cell (by kernel_rfl) j hj
section
variable {H : Type} {enc : TypeId × Value → H} {W : World}
theorem by_flat (l : List Nat) : l.flatMap (fun a : Nat => [Value.int .u8 (a : Int)]) = BY l := by
 induction l with
 | nil => rfl
 | cons x r ih => rw [List.flatMap_cons, ih]; rfl
set_option maxRecDepth 100000 in
theorem one_cell {t e : TypeId} {base : Nat} {v : Value} (ht : Tryz.prog.underlying t = some (.slice e)) (hv : Value.okWide Tryz.prog W .any base t v) : v.cells.toList = [v] := by
 obtain ⟨a, n, c, rfl⟩ := okWide_slice ht hv
 rfl
set_option maxRecDepth 100000 in
theorem bytes_in {v : Value} {d : DataW H} {p : List MemPlace} {base : Nat} (hv : Value.okWide Tryz.prog W .any base 53 v) (h : DataW.Trod enc Tryz.prog W 0 (fun _ => true) true 53 v d p) :
    ∃ (A : Option Addr) (c : Nat) (l : List Nat), v = .slice A l.length c ∧ Rd W 1 A l.length (BY l) ∧ (∀ x ∈ l, x < 256) ∧ l.length ≤ 9223372036854775807 := by
 obtain ⟨n, hn⟩ := h
 rw [one_cell Tryz.underlying53 hv] at hn
 obtain ⟨s, e, rd, ok, _⟩ := slice_in (C := fun a : Nat => [Value.int .u8 (a : Int)]) (sz := fun _ => 0) (ok := fun a => a < 256) (k := 1) (fun _ => rfl) (by decide) Tryz.underlying53 cells_uint8 (fun n cs x h => U8_in n cs x h) hn
 refine ⟨s.a, s.c, s.l, e, by rw [← by_flat]; exact rd, ok, ?_⟩
 rcases open_slice Tryz.underlying53 hn with ⟨h1, _⟩ | ⟨a', len, cap, m', n', D, Pl, h1, _, hlc, hcm, _⟩
 · rw [e] at h1
   simp only [List.cons.injEq, and_true] at h1
   injection h1 with _ h2 _
   have : s.l.length = 0 := h2
   omega
 · rw [e] at h1
   simp only [List.cons.injEq, and_true] at h1
   injection h1 with _ h2 _
   have h3 : s.l.length = len := h2
   have hmx : maxLen = 9223372036854775807 := by decide
   omega
end
end Go.Proofs.YtikpcebhcnjkhaaGreatDoor.frame
