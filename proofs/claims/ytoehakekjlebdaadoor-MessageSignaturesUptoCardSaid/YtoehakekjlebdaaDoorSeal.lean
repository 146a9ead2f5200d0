/- The contracts of the signature's codes. -/
import Derived.Test.YtoehakekjlebdaaDoorBox
namespace Go.Proofs.YtoehakekjlebdaaDoor
open Go.RowKit

set_option maxRecDepth 100000 in
set_option maxHeartbeats 2000000 in
theorem content_any (x : Sg) (hok : x.ok) (hs : x.sz ≤ 16777216) (w : World) :
    Calls Tryd.prog 72 #[.agg #[.int .i64 x.server, .int .i64 x.kind, .int .i64 x.view, .int .i64 x.slot, .string ⟨x.digest.toArray⟩, .string ⟨x.sig.toArray⟩]] w (RetStr (contSg x) w) := by
  have HI : Hid (∀ (w1 : World) (g : Nat) (R : Prop), (Bx w (sgC x) 23 (w1.alloc (.cells #[.int .i64 x.server, .int .i64 x.kind, .int .i64 x.view, .int .i64 x.slot] 3)).drew ∧ R) → w1.heap.size = g → Calls Tryd.prog 51 #[.slice (some ⟨g, 0, none⟩) 4 4] (w1.alloc (.cells #[.int .i64 x.server, .int .i64 x.kind, .int .i64 x.view, .int .i64 x.slot] 3)).drew (Gives w (sgC x) 23 (putInts [x.server, x.kind, x.view, x.slot]))) :=
    Lib.hid (fun w1 g _ hb hg => gives_ints [x.server, x.kind, x.view, x.slot] (by simp) (by simpa [List.forall_mem_cons, Sg.ok] using hok) (fun A c W hr => putInts_any A c _ W hr (by simp) (by simpa [List.forall_mem_cons, Sg.ok] using hok)) hb.1 hg)
  have hz := hs
  unfold Sg.sz at hz
  have HD : Hid (∀ (w1 : World) (R : Prop), (Bx w (sgC x) 23 w1 ∧ R) → Calls Tryd.prog 52 #[.string ⟨x.digest.toArray⟩] w1 (Gives w (sgC x) 23 (putStr x.digest))) :=
    Lib.hid (fun w1 _ hb => gives_of hb.1 (putString_any x.digest (by omega) w1))
  have HC : Hid (∀ w1, Bx w (sgC x) 23 w1 → Bx w (sgC x) 23 w1 ∧ w1.cell? ⟨w.heap.size, 0, none⟩ = some (.int .i64 x.server) ∧ w1.cell? ⟨w.heap.size, 1, none⟩ = some (.int .i64 x.kind) ∧ w1.cell? ⟨w.heap.size, 2, none⟩ = some (.int .i64 x.view) ∧
      w1.cell? ⟨w.heap.size, 3, none⟩ = some (.int .i64 x.slot) ∧ w1.cell? ⟨w.heap.size, 4, none⟩ = some (.string ⟨x.digest.toArray⟩)) :=
    Lib.hid (fun w1 hb => ⟨hb, bx_cell hb 0 _ rfl, bx_cell hb 1 _ rfl, bx_cell hb 2 _ rfl, bx_cell hb 3 _ rfl, bx_cell hb 4 _ rfl⟩)
  have H0 := Lib.hid (bx_new w (sgC x) 23)
  have hl1 := putInts_len [x.server, x.kind, x.view, x.slot] (by simpa [List.forall_mem_cons, Sg.ok] using hok) (by simp)
  have hl2 := putStr_len x.digest (by omega)
  simp only [List.length_cons, List.length_nil] at hl1
  have hq1 : ¬ (9223372036854775807 < (putInts [x.server, x.kind, x.view, x.slot]).length + (putStr x.digest).length) := by omega
  clear hok hs
  go_enter Tryd.func72, Tryd.ntmps72
  go_wp2_with fail
  go_region_held3 (fun w1 => Bx w (sgC x) 23 w1 ∧ w1.cell? ⟨w.heap.size, 0, none⟩ = some (.int .i64 x.server) ∧ w1.cell? ⟨w.heap.size, 1, none⟩ = some (.int .i64 x.kind) ∧ w1.cell? ⟨w.heap.size, 2, none⟩ = some (.int .i64 x.view) ∧
      w1.cell? ⟨w.heap.size, 3, none⟩ = some (.int .i64 x.slot) ∧ w1.cell? ⟨w.heap.size, 4, none⟩ = some (.string ⟨x.digest.toArray⟩))
    (first | exact HC.out _ (bx_drew H0.out) | exact HC.out _ (bx_alloc (‹Bx _ _ _ _ ∧ _›).1 _) | exact HC.out _ ‹Bx _ _ _ _›)
    (first
      | (go_at_call 51; refine (HI.out _ _ _ (by assumption) (by simp)).mono ?_; rintro e w2 ⟨rfl, b2⟩)
      | (go_at_call 52; refine (HD.out _ _ (by assumption)).mono ?_; rintro e w3 ⟨rfl, b3⟩))
  all_goals
    go_wp2_with fail
    go_ret
    exact ret_st rfl (bx_low ‹_›)
set_option maxRecDepth 100000 in
set_option maxHeartbeats 2000000 in
theorem sealEncode_any (x : Sg) (hok : x.ok) (hs : x.sz ≤ 16777216) (w : World) :
    Calls Tryd.prog 53 #[.agg #[.int .i64 x.server, .int .i64 x.kind, .int .i64 x.view, .int .i64 x.slot, .string ⟨x.digest.toArray⟩, .string ⟨x.sig.toArray⟩]] w (RetStr (encSg x) w) := by
  have hz := hs
  unfold Sg.sz at hz
  have HI : Hid (∀ (w1 : World) (R : Prop), (Bx w (sgC x) 23 w1 ∧ R) → Calls Tryd.prog 72 #[.agg #[.int .i64 x.server, .int .i64 x.kind, .int .i64 x.view, .int .i64 x.slot, .string ⟨x.digest.toArray⟩, .string ⟨x.sig.toArray⟩]] w1 (Gives w (sgC x) 23 (contSg x))) :=
    Lib.hid (fun w1 _ hb => gives_of hb.1 (content_any x hok hs w1))
  have HD : Hid (∀ (w1 : World) (R : Prop), (Bx w (sgC x) 23 w1 ∧ R) → Calls Tryd.prog 52 #[.string ⟨x.sig.toArray⟩] w1 (Gives w (sgC x) 23 (putStr x.sig))) :=
    Lib.hid (fun w1 _ hb => gives_of hb.1 (putString_any x.sig (by omega) w1))
  have HC : Hid (∀ w1, Bx w (sgC x) 23 w1 → Bx w (sgC x) 23 w1 ∧ w1.cell? ⟨w.heap.size, 0, none⟩ = some (.int .i64 x.server) ∧ w1.cell? ⟨w.heap.size, 1, none⟩ = some (.int .i64 x.kind) ∧ w1.cell? ⟨w.heap.size, 2, none⟩ = some (.int .i64 x.view) ∧
      w1.cell? ⟨w.heap.size, 3, none⟩ = some (.int .i64 x.slot) ∧ w1.cell? ⟨w.heap.size, 4, none⟩ = some (.string ⟨x.digest.toArray⟩) ∧ w1.cell? ⟨w.heap.size, 5, none⟩ = some (.string ⟨x.sig.toArray⟩)) :=
    Lib.hid (fun w1 hb => ⟨hb, bx_cell hb 0 _ rfl, bx_cell hb 1 _ rfl, bx_cell hb 2 _ rfl, bx_cell hb 3 _ rfl, bx_cell hb 4 _ rfl, bx_cell hb 5 _ rfl⟩)
  have H0 := Lib.hid (bx_new w (sgC x) 23)
  have hl1 := putInts_len [x.server, x.kind, x.view, x.slot] (by simpa [List.forall_mem_cons, Sg.ok] using hok) (by simp)
  have hl2 := putStr_len x.digest (by omega)
  have hl3 := putStr_len x.sig (by omega)
  simp only [List.length_cons, List.length_nil] at hl1
  have hl4 : (contSg x).length ≤ 60 + x.digest.length := by simp only [contSg, List.length_append]; omega
  have hq1 : ¬ (9223372036854775807 < (contSg x).length + (putStr x.sig).length) := by omega
  clear hok hs hl1 hl2
  go_enter Tryd.func53, Tryd.ntmps53
  go_wp2_with fail
  go_region_held3 (fun w1 => Bx w (sgC x) 23 w1 ∧ w1.cell? ⟨w.heap.size, 0, none⟩ = some (.int .i64 x.server) ∧ w1.cell? ⟨w.heap.size, 1, none⟩ = some (.int .i64 x.kind) ∧ w1.cell? ⟨w.heap.size, 2, none⟩ = some (.int .i64 x.view) ∧
      w1.cell? ⟨w.heap.size, 3, none⟩ = some (.int .i64 x.slot) ∧ w1.cell? ⟨w.heap.size, 4, none⟩ = some (.string ⟨x.digest.toArray⟩) ∧ w1.cell? ⟨w.heap.size, 5, none⟩ = some (.string ⟨x.sig.toArray⟩))
    (first | exact HC.out _ (bx_drew H0.out) | exact HC.out _ ‹Bx _ _ _ _›)
    (first
      | (go_at_call 72; refine (HI.out _ _ (by assumption)).mono ?_; rintro e w2 ⟨rfl, b2⟩)
      | (go_at_call 52; refine (HD.out _ _ (by assumption)).mono ?_; rintro e w3 ⟨rfl, b3⟩))
  all_goals
    go_wp2_with fail
    go_ret
    exact ret_st rfl (bx_low ‹_›)
end Go.Proofs.YtoehakekjlebdaaDoor
