/- The contract of entry.Decode. -/
import Derived.Test.YthmoplkleopahaaDoorEntE
import Derived.Deep.RegionLaw
namespace Go.Proofs.YthmoplkleopahaaDoor
open Go.RowKit

/-- what Decode returns -/
def RetDec (o : Option En) (w : World) (e : Ending) (w' : World) : Prop := Below w.heap.size w w' ∧ match o with
  | some x => ∃ A c, e = .returned (.tuple #[.agg #[.int .i64 x.kind, .int .i64 x.cfg, .slice A x.rs.length c], .int .i64 0]) ∧ RqIn w' A c x.rs
  | none => e = .returned (.tuple #[.agg #[.int .i64 0, .int .i64 0, .slice none 0 0], .int .i64 2])
theorem ret_d_none {o : Option En} {w w' : World} (h : o = none) (hb : Below w.heap.size w w') : RetDec o w (.returned (.tuple #[.agg #[.int .i64 0, .int .i64 0, .slice none 0 0], .int .i64 2])) w' := by
  subst h; exact ⟨hb, rfl⟩
theorem ret_d_some {o : Option En} {w w' : World} {k cf : Int} {rs : List Rq} {A : Option Addr} {n c : Nat} (h : o = some ⟨k, cf, rs⟩) (hb : Below w.heap.size w w') (hn : n = rs.length) (hr : RqIn w' A c rs) : RetDec o w (.returned (.tuple #[.agg #[.int .i64 k, .int .i64 cf, .slice A n c], .int .i64 0])) w' := by
  subst h hn; exact ⟨hb, A, c, rfl, hr⟩
theorem atoi0_i64 (s : List UInt8) : I64 (atoi0 s) := by
  unfold atoi0
  cases h : Lib.atoiAll s with
  | ok v => exact Lib.atoiAll_bounds h
  | range => exact Lib.atoiSat_bounds s
  | _ =>
    show I64 0
    exact ⟨by decide, by decide⟩
/-- a block of three cells of the call's own, behind a callee that only makes memory -/
theorem own3 {w w1 : World} {a b c : Value} {T : TypeId} (hb : Below (w.heap.size + 1) (w.alloc (.cells #[a, b, c] T)) w1) :
    (w1.cell? ⟨w.heap.size, 0, none⟩ = some a ∧ w1.cell? ⟨w.heap.size, 1, none⟩ = some b ∧ w1.cell? ⟨w.heap.size, 2, none⟩ = some c) ∧
    (w1.frozen? ⟨w.heap.size, 0, none⟩ = false ∧ w1.frozen? ⟨w.heap.size, 1, none⟩ = false ∧ w1.frozen? ⟨w.heap.size, 2, none⟩ = false) :=
  ⟨⟨(hb.cell (p := ⟨w.heap.size, 0, none⟩) (by simp)).trans (by simp), (hb.cell (p := ⟨w.heap.size, 1, none⟩) (by simp)).trans (by simp), (hb.cell (p := ⟨w.heap.size, 2, none⟩) (by simp)).trans (by simp)⟩,
    (hb.frozen (p := ⟨w.heap.size, 0, none⟩) (by simp)).trans (by simp), (hb.frozen (p := ⟨w.heap.size, 1, none⟩) (by simp)).trans (by simp), (hb.frozen (p := ⟨w.heap.size, 2, none⟩) (by simp)).trans (by simp)⟩
set_option maxRecDepth 100000 in
set_option maxHeartbeats 1000000 in
theorem decode_bad (s : ByteArray) (w : World) (hs : s.size ≤ 4096) (hg : getList s.data.toList = none) : Calls Tryd.prog 17 #[.string s] w (RetDec (decE s.data.toList) w) := by
  have B0 := Lib.hid (below_new w (.cells #[.int .i64 0, .int .i64 0, .slice none 0 0] 24))
  have HL := Lib.hid (retL_none (getList_any s (w.alloc (.cells #[.int .i64 0, .int .i64 0, .slice none 0 0] 24)) (by omega)) hg)
  have HD := Lib.hid (decE_bad hg)
  clear hg
  go_enter Tryd.func17, Tryd.ntmps17
  go_wp2_with fail
  refine HL.out.mono ?_
  rintro e w1 ⟨⟨c, hc, rfl⟩, b1⟩
  have hc1 : (c == 0) = false := by simpa using hc
  have hc2 : (c != 0) = true := by simpa using hc
  have B1 := Lib.hid (bon B0.out b1)
  have hz : w.heap.size < w1.heap.size := by have := b1.size; simp at this; omega
  obtain ⟨⟨c0, c1, c2⟩, f0, f1, f2⟩ := own3 (by simpa using b1)
  clear b1
  go_wp2_with fail
  exact bodyPost_ret (v := .tuple #[.agg #[.int .i64 0, .int .i64 0, .slice none 0 0], .int .i64 2]) (by simp [results, Tryd.results17, go_sem, c0, c1, c2]) rfl (ret_d_none HD.out (((B1.out.setCell (Nat.le_refl _) _).setCell (Nat.le_refl _) _).setCell (Nat.le_refl _) _))
end Go.Proofs.YthmoplkleopahaaDoor
