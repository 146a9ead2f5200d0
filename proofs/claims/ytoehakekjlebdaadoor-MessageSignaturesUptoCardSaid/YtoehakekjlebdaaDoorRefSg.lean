/- The contract of the reference's code of a signature. -/
import Derived.Test.YtoehakekjlebdaaDoorBox
namespace Go.Proofs.YtoehakekjlebdaaDoor
open Go.RowKit

set_option maxRecDepth 100000 in
set_option maxHeartbeats 4000000 in
theorem refSg_any (x : Sg) (w : World) (hok : x.ok) (hs : x.sz ≤ 16777216) :
    Calls Tryd.prog 40 #[.agg #[.int .i64 x.server, .int .i64 x.kind, .int .i64 x.view, .int .i64 x.slot, .string ⟨x.digest.toArray⟩, .string ⟨x.sig.toArray⟩]] w (RetStr (encSg x) w) := by
  have hI := hok
  have hz := hs
  unfold Sg.sz at hz
  have hl1 := putInts_len [x.server, x.kind, x.view, x.slot] (by simpa [List.forall_mem_cons, Sg.ok] using hI) (by simp)
  simp only [List.length_cons, List.length_nil] at hl1
  have hl2 := putStr_len x.digest (by omega)
  have hl3 := putStr_len x.sig (by omega)
  have HX0 : Hid (∀ (w1 : World) (g : Nat) (R : Prop), (Bx w (sgC x) 23 ((w1.alloc (.cells #[.int .i64 x.server, .int .i64 x.kind, .int .i64 x.view, .int .i64 x.slot] 3)).drew) ∧ R) → w1.heap.size = g → Calls Tryd.prog 38 #[.slice (some ⟨g, 0, none⟩) 4 4] ((w1.alloc (.cells #[.int .i64 x.server, .int .i64 x.kind, .int .i64 x.view, .int .i64 x.slot] 3)).drew) (Gives w (sgC x) 23 (putInts [x.server, x.kind, x.view, x.slot]))) :=
    Lib.hid (fun w1 g _ hb hg => gives_ints [x.server, x.kind, x.view, x.slot] (by simp) (by simpa [List.forall_mem_cons, Sg.ok] using hI) (fun A c W hr => refPutInts_any A c _ W hr (by simp) (by simpa [List.forall_mem_cons, Sg.ok] using hI)) hb.1 hg)
  have HX1 : Hid (∀ (t : List UInt8) (w1 : World) (R : Prop), t.length ≤ 70368744177664 → (Bx w (sgC x) 23 w1 ∧ R) → Calls Tryd.prog 39 #[.string ⟨t.toArray⟩] w1 (Gives w (sgC x) 23 (putStr t))) :=
    Lib.hid (fun t w1 _ ht hb => gives_of hb.1 (refPutString_any t ht w1))
  have HC : Hid (∀ w1, Bx w (sgC x) 23 w1 → Bx w (sgC x) 23 w1 ∧ w1.cell? ⟨w.heap.size, 0, none⟩ = some (.int .i64 x.server) ∧ w1.cell? ⟨w.heap.size, 1, none⟩ = some (.int .i64 x.kind) ∧ w1.cell? ⟨w.heap.size, 2, none⟩ = some (.int .i64 x.view) ∧ w1.cell? ⟨w.heap.size, 3, none⟩ = some (.int .i64 x.slot) ∧ w1.cell? ⟨w.heap.size, 4, none⟩ = some (.string ⟨x.digest.toArray⟩) ∧ w1.cell? ⟨w.heap.size, 5, none⟩ = some (.string ⟨x.sig.toArray⟩)) :=
    Lib.hid (fun w1 hb => ⟨hb, bx_cell hb 0 _ rfl, bx_cell hb 1 _ rfl, bx_cell hb 2 _ rfl, bx_cell hb 3 _ rfl, bx_cell hb 4 _ rfl, bx_cell hb 5 _ rfl⟩)
  have H0 := Lib.hid (bx_new w (sgC x) 23)
  have hq0 : ¬ (9223372036854775807 < (putInts [x.server, x.kind, x.view, x.slot]).length + (putStr x.digest).length) := by omega
  have hq1 : ¬ (9223372036854775807 < (putInts [x.server, x.kind, x.view, x.slot]).length + (putStr x.digest).length + (putStr x.sig).length) := by omega
  clear hok hs
  go_enter Tryd.func40, Tryd.ntmps40
  go_wp2_with fail
  go_region_held3 (fun w1 => Bx w (sgC x) 23 w1 ∧ w1.cell? ⟨w.heap.size, 0, none⟩ = some (.int .i64 x.server) ∧ w1.cell? ⟨w.heap.size, 1, none⟩ = some (.int .i64 x.kind) ∧ w1.cell? ⟨w.heap.size, 2, none⟩ = some (.int .i64 x.view) ∧ w1.cell? ⟨w.heap.size, 3, none⟩ = some (.int .i64 x.slot) ∧ w1.cell? ⟨w.heap.size, 4, none⟩ = some (.string ⟨x.digest.toArray⟩) ∧ w1.cell? ⟨w.heap.size, 5, none⟩ = some (.string ⟨x.sig.toArray⟩))
    (first | exact HC.out _ (bx_drew H0.out) | exact HC.out _ (bx_alloc (‹Bx _ _ _ _ ∧ _›).1 _) | exact HC.out _ ‹Bx _ _ _ _›)
    (first
      | (go_at_call 38; refine (HX0.out _ _ _ (by assumption) (by simp)).mono ?_; rintro e w2 ⟨rfl, b2⟩)
      | (go_at_call 39; refine (HX1.out _ _ _ (by omega) (by assumption)).mono ?_; rintro e w3 ⟨rfl, b3⟩))
  all_goals
    go_wp2_with fail
    go_ret
    exact ret_st (by rfl) (bx_low ‹_›)
end Go.Proofs.YtoehakekjlebdaaDoor
