/- The contracts of message.codeEntry and of the code of an element of a chain. -/
import Derived.Test.YtoehakekjlebdaaDoorListSg
namespace Go.Proofs.YtoehakekjlebdaaDoor
open Go.RowKit

set_option maxRecDepth 100000 in
set_option maxHeartbeats 4000000 in
theorem codeEntry_any (d : De) (w : World) (hok : d.ok w) (hs : d.sz ≤ 16777216) :
    Calls Tryd.prog 57 #[.agg #[.int .i64 d.view, .string ⟨d.value.toArray⟩, .slice d.cert.a d.cert.l.length d.cert.c]] w (RetStr (encDe d) w) := by
  have hI := hok.1
  have hz := hs
  unfold De.sz at hz
  have HK : Hid (∀ w1, Below w.heap.size w w1 → Calls Tryd.prog 73 #[.slice d.cert.a d.cert.l.length d.cert.c, .func (.func 53) #[] #[]] w1 (RetStr (putList (d.cert.l.map encSg)) w1)) := Lib.hid (fun w1 hb => listSg_any _ _ _ w1 (Sl.rd_below hok.2.1 hb) hok.2.2 (by omega))
  have hl1 := putInts_len [d.view] (by simpa [List.forall_mem_cons] using hI) (by simp)
  simp only [List.length_cons, List.length_nil] at hl1
  have hl2 := putStr_len d.value (by omega)
  have hl3 := (cert_len d.cert.l hok.2.2 (by omega)).1
  have HX0 : Hid (∀ (w1 : World) (g : Nat) (R : Prop), (Bx w (deC d) 55 ((w1.alloc (.cells #[.int .i64 d.view] 3)).drew) ∧ R) → w1.heap.size = g → Calls Tryd.prog 51 #[.slice (some ⟨g, 0, none⟩) 1 1] ((w1.alloc (.cells #[.int .i64 d.view] 3)).drew) (Gives w (deC d) 55 (putInts [d.view]))) :=
    Lib.hid (fun w1 g _ hb hg => gives_ints [d.view] (by simp) (by simpa [List.forall_mem_cons] using hI) (fun A c W hr => putInts_any A c _ W hr (by simp) (by simpa [List.forall_mem_cons] using hI)) hb.1 hg)
  have HX1 : Hid (∀ (t : List UInt8) (w1 : World) (R : Prop), t.length ≤ 70368744177664 → (Bx w (deC d) 55 w1 ∧ R) → Calls Tryd.prog 52 #[.string ⟨t.toArray⟩] w1 (Gives w (deC d) 55 (putStr t))) :=
    Lib.hid (fun t w1 _ ht hb => gives_of hb.1 (putString_any t ht w1))
  have HX2 : Hid (∀ (w1 : World) (R : Prop), (Bx w (deC d) 55 w1 ∧ R) → Calls Tryd.prog 73 #[.slice d.cert.a d.cert.l.length d.cert.c, .func (.func 53) #[] #[]] w1 (Gives w (deC d) 55 (putList (d.cert.l.map encSg)))) :=
    Lib.hid (fun w1 _ hb => gives_of hb.1 (HK.out w1 (bx_low hb.1)))
  have HC : Hid (∀ w1, Bx w (deC d) 55 w1 → Bx w (deC d) 55 w1 ∧ w1.cell? ⟨w.heap.size, 0, none⟩ = some (.int .i64 d.view) ∧ w1.cell? ⟨w.heap.size, 1, none⟩ = some (.string ⟨d.value.toArray⟩) ∧ w1.cell? ⟨w.heap.size, 2, none⟩ = some (.slice d.cert.a d.cert.l.length d.cert.c)) :=
    Lib.hid (fun w1 hb => ⟨hb, bx_cell hb 0 _ rfl, bx_cell hb 1 _ rfl, bx_cell hb 2 _ rfl⟩)
  have H0 := Lib.hid (bx_new w (deC d) 55)
  have hq0 : ¬ (9223372036854775807 < (putInts [d.view]).length + (putStr d.value).length) := by omega
  have hq1 : ¬ (9223372036854775807 < (putInts [d.view]).length + (putStr d.value).length + (putList (d.cert.l.map encSg)).length) := by omega
  clear hok hs
  go_enter Tryd.func57, Tryd.ntmps57
  go_wp2_with fail
  go_region_held3 (fun w1 => Bx w (deC d) 55 w1 ∧ w1.cell? ⟨w.heap.size, 0, none⟩ = some (.int .i64 d.view) ∧ w1.cell? ⟨w.heap.size, 1, none⟩ = some (.string ⟨d.value.toArray⟩) ∧ w1.cell? ⟨w.heap.size, 2, none⟩ = some (.slice d.cert.a d.cert.l.length d.cert.c))
    (first | exact HC.out _ (bx_drew H0.out) | exact HC.out _ (bx_alloc (‹Bx _ _ _ _ ∧ _›).1 _) | exact HC.out _ ‹Bx _ _ _ _›)
    (first
      | (go_at_call 51; refine (HX0.out _ _ _ (by assumption) (by simp)).mono ?_; rintro e w2 ⟨rfl, b2⟩)
      | (go_at_call 52; refine (HX1.out _ _ _ (by omega) (by assumption)).mono ?_; rintro e w3 ⟨rfl, b3⟩)
      | (go_at_call 73; refine (HX2.out _ _ (by assumption)).mono ?_; rintro e w4 ⟨rfl, b4⟩))
  all_goals
    go_wp2_with fail
    go_ret
    exact ret_st (by rfl) (bx_low ‹_›)
set_option maxRecDepth 100000 in
set_option maxHeartbeats 4000000 in
theorem codeHo_any (h : Ho) (w : World) (hok : h.ok w) (hs : h.sz ≤ 16777216) :
    Calls Tryd.prog 75 #[.agg #[.int .i64 h.slot, .int .i64 h.entry.view, .string ⟨h.entry.value.toArray⟩, .slice h.entry.cert.a h.entry.cert.l.length h.entry.cert.c]] w (RetStr (encHo h) w) := by
  have hI := hok.1
  have hz := hs
  unfold Ho.sz at hz
  have HK : Hid (∀ w1, Below w.heap.size w w1 → Calls Tryd.prog 57 #[.agg #[.int .i64 h.entry.view, .string ⟨h.entry.value.toArray⟩, .slice h.entry.cert.a h.entry.cert.l.length h.entry.cert.c]] w1 (RetStr (encDe h.entry) w1)) := Lib.hid (fun w1 hb => codeEntry_any h.entry w1 (De.below hok.2 hb) (by omega))
  have hl1 := putInts_len [h.slot] (by simpa [List.forall_mem_cons] using hI) (by simp)
  simp only [List.length_cons, List.length_nil] at hl1
  have hl2 := encDe_len h.entry w hok.2 (by omega)
  have HX0 : Hid (∀ (w1 : World) (g : Nat) (R : Prop), (Bx w (hoC h) 61 ((w1.alloc (.cells #[.int .i64 h.slot] 3)).drew) ∧ R) → w1.heap.size = g → Calls Tryd.prog 51 #[.slice (some ⟨g, 0, none⟩) 1 1] ((w1.alloc (.cells #[.int .i64 h.slot] 3)).drew) (Gives w (hoC h) 61 (putInts [h.slot]))) :=
    Lib.hid (fun w1 g _ hb hg => gives_ints [h.slot] (by simp) (by simpa [List.forall_mem_cons] using hI) (fun A c W hr => putInts_any A c _ W hr (by simp) (by simpa [List.forall_mem_cons] using hI)) hb.1 hg)
  have HX1 : Hid (∀ (w1 : World) (R : Prop), (Bx w (hoC h) 61 w1 ∧ R) → Calls Tryd.prog 57 #[.agg #[.int .i64 h.entry.view, .string ⟨h.entry.value.toArray⟩, .slice h.entry.cert.a h.entry.cert.l.length h.entry.cert.c]] w1 (Gives w (hoC h) 61 (encDe h.entry))) :=
    Lib.hid (fun w1 _ hb => gives_of hb.1 (HK.out w1 (bx_low hb.1)))
  have HC : Hid (∀ w1, Bx w (hoC h) 61 w1 → Bx w (hoC h) 61 w1 ∧ w1.cell? ⟨w.heap.size, 0, none⟩ = some (.int .i64 h.slot) ∧ w1.cell? ⟨w.heap.size, 1, none⟩ = some (.int .i64 h.entry.view) ∧ w1.cell? ⟨w.heap.size, 2, none⟩ = some (.string ⟨h.entry.value.toArray⟩) ∧ w1.cell? ⟨w.heap.size, 3, none⟩ = some (.slice h.entry.cert.a h.entry.cert.l.length h.entry.cert.c)) :=
    Lib.hid (fun w1 hb => ⟨hb, bx_cell hb 0 _ rfl, bx_cell hb 1 _ rfl, bx_cell hb 2 _ rfl, bx_cell hb 3 _ rfl⟩)
  have H0 := Lib.hid (bx_new w (hoC h) 61)
  have hq0 : ¬ (9223372036854775807 < (putInts [h.slot]).length + (encDe h.entry).length) := by omega
  clear hok hs
  go_enter Tryd.func75, Tryd.ntmps75
  go_wp2_with fail
  go_region_held3 (fun w1 => Bx w (hoC h) 61 w1 ∧ w1.cell? ⟨w.heap.size, 0, none⟩ = some (.int .i64 h.slot) ∧ w1.cell? ⟨w.heap.size, 1, none⟩ = some (.int .i64 h.entry.view) ∧ w1.cell? ⟨w.heap.size, 2, none⟩ = some (.string ⟨h.entry.value.toArray⟩) ∧ w1.cell? ⟨w.heap.size, 3, none⟩ = some (.slice h.entry.cert.a h.entry.cert.l.length h.entry.cert.c))
    (first | exact HC.out _ (bx_drew H0.out) | exact HC.out _ (bx_alloc (‹Bx _ _ _ _ ∧ _›).1 _) | exact HC.out _ ‹Bx _ _ _ _›)
    (first
      | (go_at_call 51; refine (HX0.out _ _ _ (by assumption) (by simp)).mono ?_; rintro e w2 ⟨rfl, b2⟩)
      | (go_at_call 57; refine (HX1.out _ _ (by assumption)).mono ?_; rintro e w3 ⟨rfl, b3⟩))
  all_goals
    go_wp2_with fail
    go_ret
    exact ret_st (by rfl) (bx_low ‹_›)
end Go.Proofs.YtoehakekjlebdaaDoor
