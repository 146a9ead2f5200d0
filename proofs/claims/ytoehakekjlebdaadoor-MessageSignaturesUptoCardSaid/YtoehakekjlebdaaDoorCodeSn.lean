/- The contract of message.codeSnapshot. -/
import Derived.Test.YtoehakekjlebdaaDoorListHo
namespace Go.Proofs.YtoehakekjlebdaaDoor
open Go.RowKit

set_option maxRecDepth 100000 in
set_option maxHeartbeats 4000000 in
theorem codeSnapshot_any (x : Sn) (w : World) (hok : x.ok w) (hs : x.sz ≤ 16777216) :
    Calls Tryd.prog 58 #[.agg #[.int .i64 x.slot, .string ⟨x.root.toArray⟩, .slice x.chunks.a x.chunks.l.length x.chunks.c, .slice x.proof.a x.proof.l.length x.proof.c, .slice x.chain.a x.chain.l.length x.chain.c]] w (RetStr (encSn x) w) := by
  have hI := hok.1
  have hz := hs
  unfold Sn.sz at hz
  have hch := strL_len x.chunks.l (by omega)
  have HK : Hid (∀ w1, Below w.heap.size w w1 → Calls Tryd.prog 73 #[.slice x.proof.a x.proof.l.length x.proof.c, .func (.func 53) #[] #[]] w1 (RetStr (putList (x.proof.l.map encSg)) w1)) := Lib.hid (fun w1 hb => listSg_any _ _ _ w1 (Sl.rd_below hok.2.2.1.1 hb) hok.2.2.1.2 (by omega))
  have HL : Hid (∀ w1, Below w.heap.size w w1 → Calls Tryd.prog 59 #[.slice x.chunks.a x.chunks.l.length x.chunks.c] w1 (RetStr (putList x.chunks.l) w1)) := Lib.hid (fun w1 hb => putList_any _ _ _ w1 (by have := Sl.rd_below hok.2.1 hb; unfold Sl.rd at this; rwa [strV_strC] at this) (by omega) (by omega))
  have HH : Hid (∀ w1, Bx w (snC x) 30 w1 → Calls Tryd.prog 74 #[.slice x.chain.a x.chain.l.length x.chain.c, .func (.func 75) #[] #[]] w1 (Gives w (snC x) 30 (putList (x.chain.l.map encHo)))) := Lib.hid (fun w1 hb => gives_of hb (listHo_any _ _ _ w1 (Sl.rd_below hok.2.2.2.1 (bx_low hb)) (fun y hy => Ho.below (hok.2.2.2.2 y hy) (bx_low hb)) (by omega)))
  have hl1 := putInts_len [x.slot] (by simpa [List.forall_mem_cons] using hI) (by simp)
  simp only [List.length_cons, List.length_nil] at hl1
  have hl2 := putStr_len x.root (by omega)
  have hl3 := (cert_len x.proof.l hok.2.2.1.2 (by omega)).1
  have hl4 := hch.1
  have hl5 := (list_len encHo Ho.sz x.chain.l (fun y hy => encHo_len y w (hok.2.2.2.2 y hy) (by have := sum_get Ho.sz _ y hy; omega)) (fun y => by have := y.sz_ge; omega) (by omega)).1
  have HX0 : Hid (∀ (w1 : World) (g : Nat) (R : Prop), (Bx w (snC x) 30 ((w1.alloc (.cells #[.int .i64 x.slot] 3)).drew) ∧ R) → w1.heap.size = g → Calls Tryd.prog 51 #[.slice (some ⟨g, 0, none⟩) 1 1] ((w1.alloc (.cells #[.int .i64 x.slot] 3)).drew) (Gives w (snC x) 30 (putInts [x.slot]))) :=
    Lib.hid (fun w1 g _ hb hg => gives_ints [x.slot] (by simp) (by simpa [List.forall_mem_cons] using hI) (fun A c W hr => putInts_any A c _ W hr (by simp) (by simpa [List.forall_mem_cons] using hI)) hb.1 hg)
  have HX1 : Hid (∀ (t : List UInt8) (w1 : World) (R : Prop), t.length ≤ 70368744177664 → (Bx w (snC x) 30 w1 ∧ R) → Calls Tryd.prog 52 #[.string ⟨t.toArray⟩] w1 (Gives w (snC x) 30 (putStr t))) :=
    Lib.hid (fun t w1 _ ht hb => gives_of hb.1 (putString_any t ht w1))
  have HX2 : Hid (∀ (w1 : World) (R : Prop), (Bx w (snC x) 30 w1 ∧ R) → Calls Tryd.prog 59 #[.slice x.chunks.a x.chunks.l.length x.chunks.c] w1 (Gives w (snC x) 30 (putList x.chunks.l))) :=
    Lib.hid (fun w1 _ hb => gives_of hb.1 (HL.out w1 (bx_low hb.1)))
  have HX3 : Hid (∀ (w1 : World) (R : Prop), (Bx w (snC x) 30 w1 ∧ R) → Calls Tryd.prog 73 #[.slice x.proof.a x.proof.l.length x.proof.c, .func (.func 53) #[] #[]] w1 (Gives w (snC x) 30 (putList (x.proof.l.map encSg)))) :=
    Lib.hid (fun w1 _ hb => gives_of hb.1 (HK.out w1 (bx_low hb.1)))
  have HC : Hid (∀ w1, Bx w (snC x) 30 w1 → Bx w (snC x) 30 w1 ∧ w1.cell? ⟨w.heap.size, 0, none⟩ = some (.int .i64 x.slot) ∧ w1.cell? ⟨w.heap.size, 1, none⟩ = some (.string ⟨x.root.toArray⟩) ∧ w1.cell? ⟨w.heap.size, 2, none⟩ = some (.slice x.chunks.a x.chunks.l.length x.chunks.c) ∧ w1.cell? ⟨w.heap.size, 3, none⟩ = some (.slice x.proof.a x.proof.l.length x.proof.c) ∧ w1.cell? ⟨w.heap.size, 4, none⟩ = some (.slice x.chain.a x.chain.l.length x.chain.c)) :=
    Lib.hid (fun w1 hb => ⟨hb, bx_cell hb 0 _ rfl, bx_cell hb 1 _ rfl, bx_cell hb 2 _ rfl, bx_cell hb 3 _ rfl, bx_cell hb 4 _ rfl⟩)
  have hq0 : ¬ (9223372036854775807 < (putInts [x.slot]).length + (putStr x.root).length) := by omega
  have hq1 : ¬ (9223372036854775807 < (putInts [x.slot]).length + (putStr x.root).length + (putList x.chunks.l).length) := by omega
  have hq2 : ¬ (9223372036854775807 < (putInts [x.slot]).length + (putStr x.root).length + (putList x.chunks.l).length + (putList (x.proof.l.map encSg)).length) := by omega
  have hq3 : ¬ (9223372036854775807 < (putInts [x.slot]).length + (putStr x.root).length + (putList x.chunks.l).length + (putList (x.proof.l.map encSg)).length + (putList (x.chain.l.map encHo)).length) := by omega
  clear hok hs hch
  go_enter Tryd.func58, Tryd.ntmps58
  go_wp2_with fail
  refine (HH.out _ (bx_new w (snC x) 30)).mono ?_
  rintro e w9 ⟨rfl, b9⟩
  have H0 := Lib.hid b9
  have H1 := HC.out _ b9
  obtain ⟨-, k0, k1, k2, k3, k4⟩ := H1
  clear b9
  go_wp2_with fail
  go_region_held3 (fun w1 => Bx w (snC x) 30 w1 ∧ w1.cell? ⟨w.heap.size, 0, none⟩ = some (.int .i64 x.slot) ∧ w1.cell? ⟨w.heap.size, 1, none⟩ = some (.string ⟨x.root.toArray⟩) ∧ w1.cell? ⟨w.heap.size, 2, none⟩ = some (.slice x.chunks.a x.chunks.l.length x.chunks.c) ∧ w1.cell? ⟨w.heap.size, 3, none⟩ = some (.slice x.proof.a x.proof.l.length x.proof.c) ∧ w1.cell? ⟨w.heap.size, 4, none⟩ = some (.slice x.chain.a x.chain.l.length x.chain.c))
    (first | exact HC.out _ (bx_drew H0.out) | exact HC.out _ (bx_alloc (‹Bx _ _ _ _ ∧ _›).1 _) | exact HC.out _ ‹Bx _ _ _ _›)
    (first
      | (go_at_call 51; refine (HX0.out _ _ _ (by assumption) (by simp)).mono ?_; rintro e w2 ⟨rfl, b2⟩)
      | (go_at_call 52; refine (HX1.out _ _ _ (by omega) (by assumption)).mono ?_; rintro e w3 ⟨rfl, b3⟩)
      | (go_at_call 59; refine (HX2.out _ _ (by assumption)).mono ?_; rintro e w4 ⟨rfl, b4⟩)
      | (go_at_call 73; refine (HX3.out _ _ (by assumption)).mono ?_; rintro e w5 ⟨rfl, b5⟩))
  all_goals
    go_wp2_with fail
    go_ret
    exact ret_st (by rfl) (bx_low ‹_›)
end Go.Proofs.YtoehakekjlebdaaDoor
