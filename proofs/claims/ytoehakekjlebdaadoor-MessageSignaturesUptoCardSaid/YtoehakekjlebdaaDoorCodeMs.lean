/- The contract of message.code. -/
import Derived.Test.YtoehakekjlebdaaDoorListSt
import Derived.Test.YtoehakekjlebdaaDoorListDe
import Derived.Test.YtoehakekjlebdaaDoorCodeSn
namespace Go.Proofs.YtoehakekjlebdaaDoor
open Go.RowKit

set_option maxRecDepth 100000 in
set_option maxHeartbeats 8000000 in
theorem code_any (m : Ms) (w : World) (hok : m.ok w) (hs : m.sz ≤ 16777216) :
    Calls Tryd.prog 31 #[.agg #[.int .i64 m.kind, .int .i64 m.src, .int .i64 m.dst, .int .i64 m.view, .int .i64 m.slot, .string ⟨m.value.toArray⟩, .int .i64 m.till, .int .i64 m.signed.server, .int .i64 m.signed.kind, .int .i64 m.signed.view, .int .i64 m.signed.slot, .string ⟨m.signed.digest.toArray⟩, .string ⟨m.signed.sig.toArray⟩, .slice m.statuses.a m.statuses.l.length m.statuses.c, .slice m.entries.a m.entries.l.length m.entries.c, .int .i64 m.snapshot.slot, .string ⟨m.snapshot.root.toArray⟩, .slice m.snapshot.chunks.a m.snapshot.chunks.l.length m.snapshot.chunks.c, .slice m.snapshot.proof.a m.snapshot.proof.l.length m.snapshot.proof.c, .slice m.snapshot.chain.a m.snapshot.chain.l.length m.snapshot.chain.c, .slice m.texts.a m.texts.l.length m.texts.c]] w (RetStr (encMs m) w) := by
  have hI := hok.1
  have hz := hs
  unfold Ms.sz at hz
  have hch := strL_len m.texts.l (by omega)
  have HG : Hid (∀ w1, Calls Tryd.prog 53 #[.agg #[.int .i64 m.signed.server, .int .i64 m.signed.kind, .int .i64 m.signed.view, .int .i64 m.signed.slot, .string ⟨m.signed.digest.toArray⟩, .string ⟨m.signed.sig.toArray⟩]] w1 (RetStr (encSg m.signed) w1)) := Lib.hid (fun w1 => sealEncode_any m.signed hok.2.1 (by omega) w1)
  have HL : Hid (∀ w1, Below w.heap.size w w1 → Calls Tryd.prog 59 #[.slice m.texts.a m.texts.l.length m.texts.c] w1 (RetStr (putList m.texts.l) w1)) := Lib.hid (fun w1 hb => putList_any _ _ _ w1 (by have := Sl.rd_below hok.2.2.2.2.2 hb; unfold Sl.rd at this; rwa [strV_strC] at this) (by omega) (by omega))
  have HS : Hid (∀ w1, Below w.heap.size w w1 → Calls Tryd.prog 54 #[.slice m.statuses.a m.statuses.l.length m.statuses.c, .func (.func 55) #[] #[]] w1 (RetStr (putList (m.statuses.l.map encSt)) w1)) := Lib.hid (fun w1 hb => listSt_any _ _ _ w1 (Sl.rd_below hok.2.2.1.1 hb) (fun y hy => St.below (hok.2.2.1.2 y hy) hb) (by omega))
  have HD : Hid (∀ w1, Below w.heap.size w w1 → Calls Tryd.prog 56 #[.slice m.entries.a m.entries.l.length m.entries.c, .func (.func 57) #[] #[]] w1 (RetStr (putList (m.entries.l.map encDe)) w1)) := Lib.hid (fun w1 hb => listDe_any _ _ _ w1 (Sl.rd_below hok.2.2.2.1.1 hb) (fun y hy => De.below (hok.2.2.2.1.2 y hy) hb) (by omega))
  have HN : Hid (∀ w1, Below w.heap.size w w1 → Calls Tryd.prog 58 #[.agg #[.int .i64 m.snapshot.slot, .string ⟨m.snapshot.root.toArray⟩, .slice m.snapshot.chunks.a m.snapshot.chunks.l.length m.snapshot.chunks.c, .slice m.snapshot.proof.a m.snapshot.proof.l.length m.snapshot.proof.c, .slice m.snapshot.chain.a m.snapshot.chain.l.length m.snapshot.chain.c]] w1 (RetStr (encSn m.snapshot) w1)) := Lib.hid (fun w1 hb => codeSnapshot_any _ w1 (Sn.below hok.2.2.2.2.1 hb) (by omega))
  have hl1 := putInts_len [m.kind, m.src, m.dst, m.view, m.slot, m.till] (by simpa [List.forall_mem_cons] using hI) (by simp)
  simp only [List.length_cons, List.length_nil] at hl1
  have hl2 := putStr_len m.value (by omega)
  have hl3 := encSg_len m.signed hok.2.1 (by omega)
  have hl4 := putStr_len (encSg m.signed) (by omega)
  have hl9 := hch.1
  have hl5 := (list_len encSt St.sz m.statuses.l (fun y hy => encSt_len y w (hok.2.2.1.2 y hy) (by have := sum_get St.sz _ y hy; omega)) (fun y => by have := y.sz_ge; omega) (by omega)).1
  have hl6 := (list_len encDe De.sz m.entries.l (fun y hy => encDe_len y w (hok.2.2.2.1.2 y hy) (by have := sum_get De.sz _ y hy; omega)) (fun y => y.sz_ge) (by omega)).1
  have hl7 := encSn_len m.snapshot w hok.2.2.2.2.1 (by omega)
  have hl8 := putStr_len (encSn m.snapshot) (by omega)
  have HX0 : Hid (∀ (w1 : World) (g : Nat) (R : Prop), (Bx w (msC m) 32 ((w1.alloc (.cells #[.int .i64 m.kind, .int .i64 m.src, .int .i64 m.dst, .int .i64 m.view, .int .i64 m.slot, .int .i64 m.till] 3)).drew) ∧ R) → w1.heap.size = g → Calls Tryd.prog 51 #[.slice (some ⟨g, 0, none⟩) 6 6] ((w1.alloc (.cells #[.int .i64 m.kind, .int .i64 m.src, .int .i64 m.dst, .int .i64 m.view, .int .i64 m.slot, .int .i64 m.till] 3)).drew) (Gives w (msC m) 32 (putInts [m.kind, m.src, m.dst, m.view, m.slot, m.till]))) :=
    Lib.hid (fun w1 g _ hb hg => gives_ints [m.kind, m.src, m.dst, m.view, m.slot, m.till] (by simp) (by simpa [List.forall_mem_cons] using hI) (fun A c W hr => putInts_any A c _ W hr (by simp) (by simpa [List.forall_mem_cons] using hI)) hb.1 hg)
  have HX1 : Hid (∀ (t : List UInt8) (w1 : World) (R : Prop), t.length ≤ 70368744177664 → (Bx w (msC m) 32 w1 ∧ R) → Calls Tryd.prog 52 #[.string ⟨t.toArray⟩] w1 (Gives w (msC m) 32 (putStr t))) :=
    Lib.hid (fun t w1 _ ht hb => gives_of hb.1 (putString_any t ht w1))
  have HX2 : Hid (∀ (w1 : World) (R : Prop), (Bx w (msC m) 32 w1 ∧ R) → Calls Tryd.prog 53 #[.agg #[.int .i64 m.signed.server, .int .i64 m.signed.kind, .int .i64 m.signed.view, .int .i64 m.signed.slot, .string ⟨m.signed.digest.toArray⟩, .string ⟨m.signed.sig.toArray⟩]] w1 (Gives w (msC m) 32 (encSg m.signed))) :=
    Lib.hid (fun w1 _ hb => gives_of hb.1 (HG.out w1))
  have HX3 : Hid (∀ (w1 : World) (R : Prop), (Bx w (msC m) 32 w1 ∧ R) → Calls Tryd.prog 54 #[.slice m.statuses.a m.statuses.l.length m.statuses.c, .func (.func 55) #[] #[]] w1 (Gives w (msC m) 32 (putList (m.statuses.l.map encSt)))) :=
    Lib.hid (fun w1 _ hb => gives_of hb.1 (HS.out w1 (bx_low hb.1)))
  have HX4 : Hid (∀ (w1 : World) (R : Prop), (Bx w (msC m) 32 w1 ∧ R) → Calls Tryd.prog 56 #[.slice m.entries.a m.entries.l.length m.entries.c, .func (.func 57) #[] #[]] w1 (Gives w (msC m) 32 (putList (m.entries.l.map encDe)))) :=
    Lib.hid (fun w1 _ hb => gives_of hb.1 (HD.out w1 (bx_low hb.1)))
  have HX5 : Hid (∀ (w1 : World) (R : Prop), (Bx w (msC m) 32 w1 ∧ R) → Calls Tryd.prog 58 #[.agg #[.int .i64 m.snapshot.slot, .string ⟨m.snapshot.root.toArray⟩, .slice m.snapshot.chunks.a m.snapshot.chunks.l.length m.snapshot.chunks.c, .slice m.snapshot.proof.a m.snapshot.proof.l.length m.snapshot.proof.c, .slice m.snapshot.chain.a m.snapshot.chain.l.length m.snapshot.chain.c]] w1 (Gives w (msC m) 32 (encSn m.snapshot))) :=
    Lib.hid (fun w1 _ hb => gives_of hb.1 (HN.out w1 (bx_low hb.1)))
  have HX6 : Hid (∀ (w1 : World) (R : Prop), (Bx w (msC m) 32 w1 ∧ R) → Calls Tryd.prog 59 #[.slice m.texts.a m.texts.l.length m.texts.c] w1 (Gives w (msC m) 32 (putList m.texts.l))) :=
    Lib.hid (fun w1 _ hb => gives_of hb.1 (HL.out w1 (bx_low hb.1)))
  have HC : Hid (∀ w1, Bx w (msC m) 32 w1 → Bx w (msC m) 32 w1 ∧ w1.cell? ⟨w.heap.size, 0, none⟩ = some (.int .i64 m.kind) ∧ w1.cell? ⟨w.heap.size, 1, none⟩ = some (.int .i64 m.src) ∧ w1.cell? ⟨w.heap.size, 2, none⟩ = some (.int .i64 m.dst) ∧ w1.cell? ⟨w.heap.size, 3, none⟩ = some (.int .i64 m.view) ∧ w1.cell? ⟨w.heap.size, 4, none⟩ = some (.int .i64 m.slot) ∧ w1.cell? ⟨w.heap.size, 5, none⟩ = some (.string ⟨m.value.toArray⟩) ∧ w1.cell? ⟨w.heap.size, 6, none⟩ = some (.int .i64 m.till) ∧ w1.cell? ⟨w.heap.size, 7, none⟩ = some (.int .i64 m.signed.server) ∧ w1.cell? ⟨w.heap.size, 8, none⟩ = some (.int .i64 m.signed.kind) ∧ w1.cell? ⟨w.heap.size, 9, none⟩ = some (.int .i64 m.signed.view) ∧ w1.cell? ⟨w.heap.size, 10, none⟩ = some (.int .i64 m.signed.slot) ∧ w1.cell? ⟨w.heap.size, 11, none⟩ = some (.string ⟨m.signed.digest.toArray⟩) ∧ w1.cell? ⟨w.heap.size, 12, none⟩ = some (.string ⟨m.signed.sig.toArray⟩) ∧ w1.cell? ⟨w.heap.size, 13, none⟩ = some (.slice m.statuses.a m.statuses.l.length m.statuses.c) ∧ w1.cell? ⟨w.heap.size, 14, none⟩ = some (.slice m.entries.a m.entries.l.length m.entries.c) ∧ w1.cell? ⟨w.heap.size, 15, none⟩ = some (.int .i64 m.snapshot.slot) ∧ w1.cell? ⟨w.heap.size, 16, none⟩ = some (.string ⟨m.snapshot.root.toArray⟩) ∧ w1.cell? ⟨w.heap.size, 17, none⟩ = some (.slice m.snapshot.chunks.a m.snapshot.chunks.l.length m.snapshot.chunks.c) ∧ w1.cell? ⟨w.heap.size, 18, none⟩ = some (.slice m.snapshot.proof.a m.snapshot.proof.l.length m.snapshot.proof.c) ∧ w1.cell? ⟨w.heap.size, 19, none⟩ = some (.slice m.snapshot.chain.a m.snapshot.chain.l.length m.snapshot.chain.c) ∧ w1.cell? ⟨w.heap.size, 20, none⟩ = some (.slice m.texts.a m.texts.l.length m.texts.c)) :=
    Lib.hid (fun w1 hb => ⟨hb, bx_cell hb 0 _ rfl, bx_cell hb 1 _ rfl, bx_cell hb 2 _ rfl, bx_cell hb 3 _ rfl, bx_cell hb 4 _ rfl, bx_cell hb 5 _ rfl, bx_cell hb 6 _ rfl, bx_cell hb 7 _ rfl, bx_cell hb 8 _ rfl, bx_cell hb 9 _ rfl, bx_cell hb 10 _ rfl, bx_cell hb 11 _ rfl, bx_cell hb 12 _ rfl, bx_cell hb 13 _ rfl, bx_cell hb 14 _ rfl, bx_cell hb 15 _ rfl, bx_cell hb 16 _ rfl, bx_cell hb 17 _ rfl, bx_cell hb 18 _ rfl, bx_cell hb 19 _ rfl, bx_cell hb 20 _ rfl⟩)
  have H0 := Lib.hid (bx_new w (msC m) 32)
  have hq0 : ¬ (9223372036854775807 < (putInts [m.kind, m.src, m.dst, m.view, m.slot, m.till]).length + (putStr m.value).length) := by omega
  have hq1 : ¬ (9223372036854775807 < (putInts [m.kind, m.src, m.dst, m.view, m.slot, m.till]).length + (putStr m.value).length + (putStr (encSg m.signed)).length) := by omega
  have hq2 : ¬ (9223372036854775807 < (putInts [m.kind, m.src, m.dst, m.view, m.slot, m.till]).length + (putStr m.value).length + (putStr (encSg m.signed)).length + (putList (m.statuses.l.map encSt)).length) := by omega
  have hq3 : ¬ (9223372036854775807 < (putInts [m.kind, m.src, m.dst, m.view, m.slot, m.till]).length + (putStr m.value).length + (putStr (encSg m.signed)).length + (putList (m.statuses.l.map encSt)).length + (putList (m.entries.l.map encDe)).length) := by omega
  have hq4 : ¬ (9223372036854775807 < (putInts [m.kind, m.src, m.dst, m.view, m.slot, m.till]).length + (putStr m.value).length + (putStr (encSg m.signed)).length + (putList (m.statuses.l.map encSt)).length + (putList (m.entries.l.map encDe)).length + (putStr (encSn m.snapshot)).length) := by omega
  have hq5 : ¬ (9223372036854775807 < (putInts [m.kind, m.src, m.dst, m.view, m.slot, m.till]).length + (putStr m.value).length + (putStr (encSg m.signed)).length + (putList (m.statuses.l.map encSt)).length + (putList (m.entries.l.map encDe)).length + (putStr (encSn m.snapshot)).length + (putList m.texts.l).length) := by omega
  clear hok hs hch
  go_enter Tryd.func31, Tryd.ntmps31
  go_wp2_with fail
  go_region_held3 (fun w1 => Bx w (msC m) 32 w1 ∧ w1.cell? ⟨w.heap.size, 0, none⟩ = some (.int .i64 m.kind) ∧ w1.cell? ⟨w.heap.size, 1, none⟩ = some (.int .i64 m.src) ∧ w1.cell? ⟨w.heap.size, 2, none⟩ = some (.int .i64 m.dst) ∧ w1.cell? ⟨w.heap.size, 3, none⟩ = some (.int .i64 m.view) ∧ w1.cell? ⟨w.heap.size, 4, none⟩ = some (.int .i64 m.slot) ∧ w1.cell? ⟨w.heap.size, 5, none⟩ = some (.string ⟨m.value.toArray⟩) ∧ w1.cell? ⟨w.heap.size, 6, none⟩ = some (.int .i64 m.till) ∧ w1.cell? ⟨w.heap.size, 7, none⟩ = some (.int .i64 m.signed.server) ∧ w1.cell? ⟨w.heap.size, 8, none⟩ = some (.int .i64 m.signed.kind) ∧ w1.cell? ⟨w.heap.size, 9, none⟩ = some (.int .i64 m.signed.view) ∧ w1.cell? ⟨w.heap.size, 10, none⟩ = some (.int .i64 m.signed.slot) ∧ w1.cell? ⟨w.heap.size, 11, none⟩ = some (.string ⟨m.signed.digest.toArray⟩) ∧ w1.cell? ⟨w.heap.size, 12, none⟩ = some (.string ⟨m.signed.sig.toArray⟩) ∧ w1.cell? ⟨w.heap.size, 13, none⟩ = some (.slice m.statuses.a m.statuses.l.length m.statuses.c) ∧ w1.cell? ⟨w.heap.size, 14, none⟩ = some (.slice m.entries.a m.entries.l.length m.entries.c) ∧ w1.cell? ⟨w.heap.size, 15, none⟩ = some (.int .i64 m.snapshot.slot) ∧ w1.cell? ⟨w.heap.size, 16, none⟩ = some (.string ⟨m.snapshot.root.toArray⟩) ∧ w1.cell? ⟨w.heap.size, 17, none⟩ = some (.slice m.snapshot.chunks.a m.snapshot.chunks.l.length m.snapshot.chunks.c) ∧ w1.cell? ⟨w.heap.size, 18, none⟩ = some (.slice m.snapshot.proof.a m.snapshot.proof.l.length m.snapshot.proof.c) ∧ w1.cell? ⟨w.heap.size, 19, none⟩ = some (.slice m.snapshot.chain.a m.snapshot.chain.l.length m.snapshot.chain.c) ∧ w1.cell? ⟨w.heap.size, 20, none⟩ = some (.slice m.texts.a m.texts.l.length m.texts.c))
    (first | exact HC.out _ (bx_drew H0.out) | exact HC.out _ (bx_alloc (‹Bx _ _ _ _ ∧ _›).1 _) | exact HC.out _ ‹Bx _ _ _ _›)
    (first
      | (go_at_call 51; refine (HX0.out _ _ _ (by assumption) (by simp)).mono ?_; rintro e w2 ⟨rfl, b2⟩)
      | (go_at_call 52; refine (HX1.out _ _ _ (by omega) (by assumption)).mono ?_; rintro e w3 ⟨rfl, b3⟩)
      | (go_at_call 53; refine (HX2.out _ _ (by assumption)).mono ?_; rintro e w4 ⟨rfl, b4⟩)
      | (go_at_call 54; refine (HX3.out _ _ (by assumption)).mono ?_; rintro e w5 ⟨rfl, b5⟩)
      | (go_at_call 56; refine (HX4.out _ _ (by assumption)).mono ?_; rintro e w6 ⟨rfl, b6⟩)
      | (go_at_call 58; refine (HX5.out _ _ (by assumption)).mono ?_; rintro e w7 ⟨rfl, b7⟩)
      | (go_at_call 59; refine (HX6.out _ _ (by assumption)).mono ?_; rintro e w8 ⟨rfl, b8⟩))
  all_goals
    go_wp2_with fail
    go_ret
    exact ret_st (by rfl) (bx_low ‹_›)
end Go.Proofs.YtoehakekjlebdaaDoor
