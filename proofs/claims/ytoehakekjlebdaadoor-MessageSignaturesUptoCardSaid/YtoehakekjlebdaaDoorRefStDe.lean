/- The contracts of the reference's codes of a status and of an entry. -/
import Derived.Test.YtoehakekjlebdaaDoorRefSeals
namespace Go.Proofs.YtoehakekjlebdaaDoor
open Go.RowKit

set_option maxRecDepth 100000 in
set_option maxHeartbeats 4000000 in
theorem refStatus_any (s : St) (w : World) (hok : s.ok w) (hs : s.sz ≤ 16777216) :
    Calls Tryd.prog 36 #[.agg #[.int .i64 s.server, .int .i64 s.view, .int .i64 s.length, .int .i64 s.lockView, .string ⟨s.lock.toArray⟩, .slice s.cert.a s.cert.l.length s.cert.c, .int .i64 s.signed.server, .int .i64 s.signed.kind, .int .i64 s.signed.view, .int .i64 s.signed.slot, .string ⟨s.signed.digest.toArray⟩, .string ⟨s.signed.sig.toArray⟩]] w (RetStr (encSt s) w) := by
  have hI := hok.1
  have hz := hs
  unfold St.sz at hz
  have HG : Hid (∀ w1, Calls Tryd.prog 40 #[.agg #[.int .i64 s.signed.server, .int .i64 s.signed.kind, .int .i64 s.signed.view, .int .i64 s.signed.slot, .string ⟨s.signed.digest.toArray⟩, .string ⟨s.signed.sig.toArray⟩]] w1 (RetStr (encSg s.signed) w1)) := Lib.hid (fun w1 => refSg_any s.signed w1 hok.2.2.2 (by omega))
  have HK : Hid (∀ w1, Below w.heap.size w w1 → Calls Tryd.prog 66 #[.slice s.cert.a s.cert.l.length s.cert.c] w1 (RetStrs (s.cert.l.map encSg) w1)) := Lib.hid (fun w1 hb => seals_any _ _ _ w1 (Sl.rd_below hok.2.1 hb) hok.2.2.1 (by omega))
  have HL : Hid (∀ w1 A c, Rd w1 1 A s.cert.l.length (strC (s.cert.l.map encSg)) → Calls Tryd.prog 41 #[.slice A s.cert.l.length c] w1 (RetStr (putList (s.cert.l.map encSg)) w1)) := Lib.hid (fun w1 A c hr => by have h3 := cert_len s.cert.l hok.2.2.1 (by omega); have h4 := refPutList_any A c (s.cert.l.map encSg) w1 (by simpa using hr) (by simp; omega) (by omega); simpa using h4)
  have hl1 := putInts_len [s.server, s.view, s.length, s.lockView] (by simpa [List.forall_mem_cons] using hI) (by simp)
  simp only [List.length_cons, List.length_nil] at hl1
  have hl2 := putStr_len s.lock (by omega)
  have hl3 := (cert_len s.cert.l hok.2.2.1 (by omega)).1
  have hl4 := encSg_len s.signed hok.2.2.2 (by omega)
  have hl5 := putStr_len (encSg s.signed) (by omega)
  have HX0 : Hid (∀ (w1 : World) (g : Nat) (R : Prop), (Bx w (stC s) 52 ((w1.alloc (.cells #[.int .i64 s.server, .int .i64 s.view, .int .i64 s.length, .int .i64 s.lockView] 3)).drew) ∧ R) → w1.heap.size = g → Calls Tryd.prog 38 #[.slice (some ⟨g, 0, none⟩) 4 4] ((w1.alloc (.cells #[.int .i64 s.server, .int .i64 s.view, .int .i64 s.length, .int .i64 s.lockView] 3)).drew) (Gives w (stC s) 52 (putInts [s.server, s.view, s.length, s.lockView]))) :=
    Lib.hid (fun w1 g _ hb hg => gives_ints [s.server, s.view, s.length, s.lockView] (by simp) (by simpa [List.forall_mem_cons] using hI) (fun A c W hr => refPutInts_any A c _ W hr (by simp) (by simpa [List.forall_mem_cons] using hI)) hb.1 hg)
  have HX1 : Hid (∀ (t : List UInt8) (w1 : World) (R : Prop), t.length ≤ 70368744177664 → (Bx w (stC s) 52 w1 ∧ R) → Calls Tryd.prog 39 #[.string ⟨t.toArray⟩] w1 (Gives w (stC s) 52 (putStr t))) :=
    Lib.hid (fun t w1 _ ht hb => gives_of hb.1 (refPutString_any t ht w1))
  have HX2 : Hid (∀ (w1 : World) (R : Prop), (Bx w (stC s) 52 w1 ∧ R) → Calls Tryd.prog 66 #[.slice s.cert.a s.cert.l.length s.cert.c] w1 (GivesStrs w (stC s) 52 (s.cert.l.length) (s.cert.l.map encSg))) :=
    Lib.hid (fun w1 _ hb => gives_strs hb.1 (HK.out w1 (bx_low hb.1)) (by simp))
  have HX3 : Hid (∀ (w1 : World) (R : Prop) (A : Option Addr) (c : Nat), (Bx w (stC s) 52 w1 ∧ R) → Rd w1 1 A (s.cert.l.length) (strC (s.cert.l.map encSg)) → Calls Tryd.prog 41 #[.slice A (s.cert.l.length) c] w1 (Gives w (stC s) 52 (putList (s.cert.l.map encSg)))) :=
    Lib.hid (fun w1 _ A c hb hr => gives_of hb.1 (HL.out w1 A c hr))
  have HX4 : Hid (∀ (w1 : World) (R : Prop), (Bx w (stC s) 52 w1 ∧ R) → Calls Tryd.prog 40 #[.agg #[.int .i64 s.signed.server, .int .i64 s.signed.kind, .int .i64 s.signed.view, .int .i64 s.signed.slot, .string ⟨s.signed.digest.toArray⟩, .string ⟨s.signed.sig.toArray⟩]] w1 (Gives w (stC s) 52 (encSg s.signed))) :=
    Lib.hid (fun w1 _ hb => gives_of hb.1 (HG.out w1))
  have HC : Hid (∀ w1, Bx w (stC s) 52 w1 → Bx w (stC s) 52 w1 ∧ w1.cell? ⟨w.heap.size, 0, none⟩ = some (.int .i64 s.server) ∧ w1.cell? ⟨w.heap.size, 1, none⟩ = some (.int .i64 s.view) ∧ w1.cell? ⟨w.heap.size, 2, none⟩ = some (.int .i64 s.length) ∧ w1.cell? ⟨w.heap.size, 3, none⟩ = some (.int .i64 s.lockView) ∧ w1.cell? ⟨w.heap.size, 4, none⟩ = some (.string ⟨s.lock.toArray⟩) ∧ w1.cell? ⟨w.heap.size, 5, none⟩ = some (.slice s.cert.a s.cert.l.length s.cert.c) ∧ w1.cell? ⟨w.heap.size, 6, none⟩ = some (.int .i64 s.signed.server) ∧ w1.cell? ⟨w.heap.size, 7, none⟩ = some (.int .i64 s.signed.kind) ∧ w1.cell? ⟨w.heap.size, 8, none⟩ = some (.int .i64 s.signed.view) ∧ w1.cell? ⟨w.heap.size, 9, none⟩ = some (.int .i64 s.signed.slot) ∧ w1.cell? ⟨w.heap.size, 10, none⟩ = some (.string ⟨s.signed.digest.toArray⟩) ∧ w1.cell? ⟨w.heap.size, 11, none⟩ = some (.string ⟨s.signed.sig.toArray⟩)) :=
    Lib.hid (fun w1 hb => ⟨hb, bx_cell hb 0 _ rfl, bx_cell hb 1 _ rfl, bx_cell hb 2 _ rfl, bx_cell hb 3 _ rfl, bx_cell hb 4 _ rfl, bx_cell hb 5 _ rfl, bx_cell hb 6 _ rfl, bx_cell hb 7 _ rfl, bx_cell hb 8 _ rfl, bx_cell hb 9 _ rfl, bx_cell hb 10 _ rfl, bx_cell hb 11 _ rfl⟩)
  have H0 := Lib.hid (bx_new w (stC s) 52)
  have hq0 : ¬ (9223372036854775807 < (putInts [s.server, s.view, s.length, s.lockView]).length + (putStr s.lock).length) := by omega
  have hq1 : ¬ (9223372036854775807 < (putInts [s.server, s.view, s.length, s.lockView]).length + (putStr s.lock).length + (putList (s.cert.l.map encSg)).length) := by omega
  have hq2 : ¬ (9223372036854775807 < (putInts [s.server, s.view, s.length, s.lockView]).length + (putStr s.lock).length + (putList (s.cert.l.map encSg)).length + (putStr (encSg s.signed)).length) := by omega
  clear hok hs
  go_enter Tryd.func36, Tryd.ntmps36
  go_wp2_with fail
  go_region_held3 (fun w1 => Bx w (stC s) 52 w1 ∧ w1.cell? ⟨w.heap.size, 0, none⟩ = some (.int .i64 s.server) ∧ w1.cell? ⟨w.heap.size, 1, none⟩ = some (.int .i64 s.view) ∧ w1.cell? ⟨w.heap.size, 2, none⟩ = some (.int .i64 s.length) ∧ w1.cell? ⟨w.heap.size, 3, none⟩ = some (.int .i64 s.lockView) ∧ w1.cell? ⟨w.heap.size, 4, none⟩ = some (.string ⟨s.lock.toArray⟩) ∧ w1.cell? ⟨w.heap.size, 5, none⟩ = some (.slice s.cert.a s.cert.l.length s.cert.c) ∧ w1.cell? ⟨w.heap.size, 6, none⟩ = some (.int .i64 s.signed.server) ∧ w1.cell? ⟨w.heap.size, 7, none⟩ = some (.int .i64 s.signed.kind) ∧ w1.cell? ⟨w.heap.size, 8, none⟩ = some (.int .i64 s.signed.view) ∧ w1.cell? ⟨w.heap.size, 9, none⟩ = some (.int .i64 s.signed.slot) ∧ w1.cell? ⟨w.heap.size, 10, none⟩ = some (.string ⟨s.signed.digest.toArray⟩) ∧ w1.cell? ⟨w.heap.size, 11, none⟩ = some (.string ⟨s.signed.sig.toArray⟩))
    (first | exact HC.out _ (bx_drew H0.out) | exact HC.out _ (bx_alloc (‹Bx _ _ _ _ ∧ _›).1 _) | exact HC.out _ ‹Bx _ _ _ _›)
    (first
      | (go_at_call 38; refine (HX0.out _ _ _ (by assumption) (by simp)).mono ?_; rintro e w2 ⟨rfl, b2⟩)
      | (go_at_call 39; refine (HX1.out _ _ _ (by omega) (by assumption)).mono ?_; rintro e w3 ⟨rfl, b3⟩)
      | (go_at_call 66; refine (HX2.out _ _ (by assumption)).mono ?_; rintro e w4 ⟨A2, c2, rfl, r2, b4⟩)
      | (go_at_call 41; refine (HX3.out _ _ _ _ (by assumption) ?_).mono ?_; assumption; rintro e w5 ⟨rfl, b5⟩)
      | (go_at_call 40; refine (HX4.out _ _ (by assumption)).mono ?_; rintro e w6 ⟨rfl, b6⟩))
  all_goals
    go_wp2_with fail
    go_ret
    exact ret_st (by rfl) (bx_low ‹_›)
set_option maxRecDepth 100000 in
set_option maxHeartbeats 4000000 in
theorem refEntry_any (d : De) (w : World) (hok : d.ok w) (hs : d.sz ≤ 16777216) :
    Calls Tryd.prog 37 #[.agg #[.int .i64 d.view, .string ⟨d.value.toArray⟩, .slice d.cert.a d.cert.l.length d.cert.c]] w (RetStr (encDe d) w) := by
  have hI := hok.1
  have hz := hs
  unfold De.sz at hz
  have HK : Hid (∀ w1, Below w.heap.size w w1 → Calls Tryd.prog 66 #[.slice d.cert.a d.cert.l.length d.cert.c] w1 (RetStrs (d.cert.l.map encSg) w1)) := Lib.hid (fun w1 hb => seals_any _ _ _ w1 (Sl.rd_below hok.2.1 hb) hok.2.2 (by omega))
  have HL : Hid (∀ w1 A c, Rd w1 1 A d.cert.l.length (strC (d.cert.l.map encSg)) → Calls Tryd.prog 41 #[.slice A d.cert.l.length c] w1 (RetStr (putList (d.cert.l.map encSg)) w1)) := Lib.hid (fun w1 A c hr => by have h3 := cert_len d.cert.l hok.2.2 (by omega); have h4 := refPutList_any A c (d.cert.l.map encSg) w1 (by simpa using hr) (by simp; omega) (by omega); simpa using h4)
  have hl1 := putInts_len [d.view] (by simpa [List.forall_mem_cons] using hI) (by simp)
  simp only [List.length_cons, List.length_nil] at hl1
  have hl2 := putStr_len d.value (by omega)
  have hl3 := (cert_len d.cert.l hok.2.2 (by omega)).1
  have HX0 : Hid (∀ (w1 : World) (g : Nat) (R : Prop), (Bx w (deC d) 55 ((w1.alloc (.cells #[.int .i64 d.view] 3)).drew) ∧ R) → w1.heap.size = g → Calls Tryd.prog 38 #[.slice (some ⟨g, 0, none⟩) 1 1] ((w1.alloc (.cells #[.int .i64 d.view] 3)).drew) (Gives w (deC d) 55 (putInts [d.view]))) :=
    Lib.hid (fun w1 g _ hb hg => gives_ints [d.view] (by simp) (by simpa [List.forall_mem_cons] using hI) (fun A c W hr => refPutInts_any A c _ W hr (by simp) (by simpa [List.forall_mem_cons] using hI)) hb.1 hg)
  have HX1 : Hid (∀ (t : List UInt8) (w1 : World) (R : Prop), t.length ≤ 70368744177664 → (Bx w (deC d) 55 w1 ∧ R) → Calls Tryd.prog 39 #[.string ⟨t.toArray⟩] w1 (Gives w (deC d) 55 (putStr t))) :=
    Lib.hid (fun t w1 _ ht hb => gives_of hb.1 (refPutString_any t ht w1))
  have HX2 : Hid (∀ (w1 : World) (R : Prop), (Bx w (deC d) 55 w1 ∧ R) → Calls Tryd.prog 66 #[.slice d.cert.a d.cert.l.length d.cert.c] w1 (GivesStrs w (deC d) 55 (d.cert.l.length) (d.cert.l.map encSg))) :=
    Lib.hid (fun w1 _ hb => gives_strs hb.1 (HK.out w1 (bx_low hb.1)) (by simp))
  have HX3 : Hid (∀ (w1 : World) (R : Prop) (A : Option Addr) (c : Nat), (Bx w (deC d) 55 w1 ∧ R) → Rd w1 1 A (d.cert.l.length) (strC (d.cert.l.map encSg)) → Calls Tryd.prog 41 #[.slice A (d.cert.l.length) c] w1 (Gives w (deC d) 55 (putList (d.cert.l.map encSg)))) :=
    Lib.hid (fun w1 _ A c hb hr => gives_of hb.1 (HL.out w1 A c hr))
  have HC : Hid (∀ w1, Bx w (deC d) 55 w1 → Bx w (deC d) 55 w1 ∧ w1.cell? ⟨w.heap.size, 0, none⟩ = some (.int .i64 d.view) ∧ w1.cell? ⟨w.heap.size, 1, none⟩ = some (.string ⟨d.value.toArray⟩) ∧ w1.cell? ⟨w.heap.size, 2, none⟩ = some (.slice d.cert.a d.cert.l.length d.cert.c)) :=
    Lib.hid (fun w1 hb => ⟨hb, bx_cell hb 0 _ rfl, bx_cell hb 1 _ rfl, bx_cell hb 2 _ rfl⟩)
  have H0 := Lib.hid (bx_new w (deC d) 55)
  have hq0 : ¬ (9223372036854775807 < (putInts [d.view]).length + (putStr d.value).length) := by omega
  have hq1 : ¬ (9223372036854775807 < (putInts [d.view]).length + (putStr d.value).length + (putList (d.cert.l.map encSg)).length) := by omega
  clear hok hs
  go_enter Tryd.func37, Tryd.ntmps37
  go_wp2_with fail
  go_region_held3 (fun w1 => Bx w (deC d) 55 w1 ∧ w1.cell? ⟨w.heap.size, 0, none⟩ = some (.int .i64 d.view) ∧ w1.cell? ⟨w.heap.size, 1, none⟩ = some (.string ⟨d.value.toArray⟩) ∧ w1.cell? ⟨w.heap.size, 2, none⟩ = some (.slice d.cert.a d.cert.l.length d.cert.c))
    (first | exact HC.out _ (bx_drew H0.out) | exact HC.out _ (bx_alloc (‹Bx _ _ _ _ ∧ _›).1 _) | exact HC.out _ ‹Bx _ _ _ _›)
    (first
      | (go_at_call 38; refine (HX0.out _ _ _ (by assumption) (by simp)).mono ?_; rintro e w2 ⟨rfl, b2⟩)
      | (go_at_call 39; refine (HX1.out _ _ _ (by omega) (by assumption)).mono ?_; rintro e w3 ⟨rfl, b3⟩)
      | (go_at_call 66; refine (HX2.out _ _ (by assumption)).mono ?_; rintro e w4 ⟨A2, c2, rfl, r2, b4⟩)
      | (go_at_call 41; refine (HX3.out _ _ _ _ (by assumption) ?_).mono ?_; assumption; rintro e w5 ⟨rfl, b5⟩))
  all_goals
    go_wp2_with fail
    go_ret
    exact ret_st (by rfl) (bx_low ‹_›)
end Go.Proofs.YtoehakekjlebdaaDoor
