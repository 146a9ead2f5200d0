/- The contract of the reference's code of a signature. -/
import Derived.Deep.AppendLies
import Derived.Deep.RegionLaw
import Derived.Test.YtikpcebhcnjkhaaGreatDoorSPl
import Derived.Test.YtikpcebhcnjkhaaGreatDoorSWa
namespace Go.Proofs.YtikpcebhcnjkhaaGreatDoor
open Go.RowKit
set_option maxRecDepth 100000 in
set_option maxHeartbeats 4000000 in
theorem refSg_any (x : Sg) (w : World) (hok : x.ok) (hs : x.sz ≤ 16777216) :
    Calls Tryz.prog 61 #[.agg #[.int .i64 x.server, .int .i64 x.kind, .int .i64 x.view, .int .i64 x.slot, .string ⟨x.digest.toArray⟩, .string ⟨x.sig.toArray⟩]] w (RetStr (encSg x) w) := by
 have hI := hok
 have hz := hs
 unfold Sg.sz at hz
 have hl1 := putInts_len [x.server, x.kind, x.view, x.slot] (by simpa [List.forall_mem_cons, Sg.ok] using hI) (by simp)
 simp only [List.length_cons, List.length_nil] at hl1
 have hl2 := putStr_len x.digest (by omega)
 have hl3 := putStr_len x.sig (by omega)
 have HX0 : Hid (∀ (w1 : World) (g : Nat) (R : Prop), (Bx w (sgC x) 42 ((w1.alloc (.cells #[.int .i64 x.server, .int .i64 x.kind, .int .i64 x.view, .int .i64 x.slot] 3)).drew) ∧ R) → w1.heap.size = g → Calls Tryz.prog 59 #[.slice (some ⟨g, 0, none⟩) 4 4] ((w1.alloc (.cells #[.int .i64 x.server, .int .i64 x.kind, .int .i64 x.view, .int .i64 x.slot] 3)).drew) (Gives w (sgC x) 42 (putInts [x.server, x.kind, x.view, x.slot]))) :=
  hD (fun w1 g _ hb hg => gives_ints [x.server, x.kind, x.view, x.slot] (by simp) (by simpa [List.forall_mem_cons, Sg.ok] using hI) (fun A c W hr => refPutInts_any A c _ W hr (by simp) (by simpa [List.forall_mem_cons, Sg.ok] using hI)) hb.1 hg)
 have HX1 : Hid (∀ (t : List UInt8) (w1 : World) (R : Prop), t.length ≤ 70368744177664 → (Bx w (sgC x) 42 w1 ∧ R) → Calls Tryz.prog 60 #[.string ⟨t.toArray⟩] w1 (Gives w (sgC x) 42 (putStr t))) :=
  hD (fun t w1 _ ht hb => gives_of hb.1 (refPutString_any t ht w1))
 have HC : Hid (∀ w1, Bx w (sgC x) 42 w1 → Bx w (sgC x) 42 w1 ∧ w1.cell? ⟨w.heap.size, 0, none⟩ = some (.int .i64 x.server) ∧ w1.cell? ⟨w.heap.size, 1, none⟩ = some (.int .i64 x.kind) ∧ w1.cell? ⟨w.heap.size, 2, none⟩ = some (.int .i64 x.view) ∧ w1.cell? ⟨w.heap.size, 3, none⟩ = some (.int .i64 x.slot) ∧ w1.cell? ⟨w.heap.size, 4, none⟩ = some (.string ⟨x.digest.toArray⟩) ∧ w1.cell? ⟨w.heap.size, 5, none⟩ = some (.string ⟨x.sig.toArray⟩)) :=
  hD (fun w1 hb => ⟨hb, bx_cell hb 0 _ rfl, bx_cell hb 1 _ rfl, bx_cell hb 2 _ rfl, bx_cell hb 3 _ rfl, bx_cell hb 4 _ rfl, bx_cell hb 5 _ rfl⟩)
 have H0 := hD (bx_new w (sgC x) 42)
 have hq0 : ¬ (9223372036854775807 < (putInts [x.server, x.kind, x.view, x.slot]).length + (putStr x.digest).length) := by omega
 have hq1 : ¬ (9223372036854775807 < (putInts [x.server, x.kind, x.view, x.slot]).length + (putStr x.digest).length + (putStr x.sig).length) := by omega
 clear hok hs
 go_enter Tryz.func61, Tryz.ntmps61
 go_wp2_with fail
 go_region_held3 (fun w1 => Bx w (sgC x) 42 w1 ∧ w1.cell? ⟨w.heap.size, 0, none⟩ = some (.int .i64 x.server) ∧ w1.cell? ⟨w.heap.size, 1, none⟩ = some (.int .i64 x.kind) ∧ w1.cell? ⟨w.heap.size, 2, none⟩ = some (.int .i64 x.view) ∧ w1.cell? ⟨w.heap.size, 3, none⟩ = some (.int .i64 x.slot) ∧ w1.cell? ⟨w.heap.size, 4, none⟩ = some (.string ⟨x.digest.toArray⟩) ∧ w1.cell? ⟨w.heap.size, 5, none⟩ = some (.string ⟨x.sig.toArray⟩))
  (first | exact HC.out _ (bx_drew H0.out) | exact HC.out _ (bx_alloc (‹Bx _ _ _ _ ∧ _›).1 _) | exact HC.out _ ‹Bx _ _ _ _›)
  (first
   | (go_at_call 59; refine (HX0.out _ _ _ (by assumption) (by simp)).mono ?_; rintro e w2 ⟨rfl, b2⟩)
   | (go_at_call 60; refine (HX1.out _ _ _ (by omega) (by assumption)).mono ?_; rintro e w3 ⟨rfl, b3⟩))
 all_goals
  go_wp2_with fail
  go_ret
  exact ret_st (by rfl) (bx_low ‹_›)
open Go.RowKit
theorem sgC_len' (x : Sg) : (sgC x).length = 6 := rfl
set_option maxRecDepth 100000 in
set_option maxHeartbeats 2000000 in
theorem seals_any (A : Option Addr) (c : Nat) (l : List Sg) (w : World) (hr : Rd w 6 A l.length (l.flatMap sgC)) (hok : ∀ x ∈ l, x.ok) (hs : sum Sg.sz l ≤ 16777216) :
    Calls Tryz.prog 92 #[.slice A l.length c] w (RetStrs (l.map encSg) w) := by
 obtain ⟨i0, hi, hz0, hz1, hz2⟩ := info_parts infoS
 have HI := hD hi
 have HZ0 := hD hz0
 have HZ1 := hD hz1
 have HZ2 := hD hz2
 have HR := hD hr
 have hlen := cert_len l hok hs
 have HE : Hid (∀ x ∈ l, ∀ w1, Calls Tryz.prog 61 #[.agg #[.int .i64 x.server, .int .i64 x.kind, .int .i64 x.view, .int .i64 x.slot, .string ⟨x.digest.toArray⟩, .string ⟨x.sig.toArray⟩]] w1 (RetStr (encSg x) w1)) :=
  hD (fun x hx w1 => refSg_any x w1 (hok x hx) (by have := sum_get Sg.sz l x hx; omega))
 have hn : l.length ≤ 16777216 := by omega
 clear hi hz0 hz1 hz2 hr hok hs hlen
 go_enter Tryz.func92, Tryz.ntmps92
 go_wp2_with fail
 go_loopw [3, 4] (fun o i wr => ∃ k : Nat, i = .int .i64 k ∧ k ≤ l.length ∧ wr.ownsRow w.heap.size 9 1 o k (strC ((l.take k).map encSg)) ∧ Below w.heap.size w wr ∧ w.heap.size ≤ wr.heap.size) (fun _ i _ => l.length - (intOf i).toNat)
 case atStart => exact ⟨0, rfl, by omega, by simpa [strC] using World.ownsRow_nil _ _ _ _, Below.refl _ _, Nat.le_refl _⟩
 case round =>
  obtain ⟨k, rfl, hk, hown, hb, hge⟩ := hrel
  have HO := hD hown
  have HB := hD hb
  clear hown hb
  by_cases hlt : k < l.length
  · have i0' : (0 : Int) ≤ (k : Int) := by omega
    have i1 : (k : Int) < (l.length : Int) := by omega
    obtain ⟨g, o, rfl, hg, hcc⟩ := HR.out.at sgC_len' (by omega) hlt
    obtain ⟨x, hx⟩ : ∃ x, x = l[k] := ⟨_, rfl⟩
    have HX := hD hx.symm
    have HM := hD (hx ▸ List.getElem_mem hlt : x ∈ l)
    clear hx
    have a0 : wr.cell? ⟨g, o + k * 6, none⟩ = some (.int .i64 x.server) := by simpa using hcc wr HB.out 0 _ (by rw [HX.out]; rfl)
    have a1 : wr.cell? ⟨g, o + k * 6 + 1, none⟩ = some (.int .i64 x.kind) := hcc wr HB.out 1 _ (by rw [HX.out]; rfl)
    have a2 : wr.cell? ⟨g, o + k * 6 + 2, none⟩ = some (.int .i64 x.view) := hcc wr HB.out 2 _ (by rw [HX.out]; rfl)
    have a3 : wr.cell? ⟨g, o + k * 6 + 3, none⟩ = some (.int .i64 x.slot) := hcc wr HB.out 3 _ (by rw [HX.out]; rfl)
    have a4 : wr.cell? ⟨g, o + k * 6 + 4, none⟩ = some (.string ⟨x.digest.toArray⟩) := hcc wr HB.out 4 _ (by rw [HX.out]; rfl)
    have a5 : wr.cell? ⟨g, o + k * 6 + 5, none⟩ = some (.string ⟨x.sig.toArray⟩) := hcc wr HB.out 5 _ (by rw [HX.out]; rfl)
    clear hcc
    go_wp2_with fail
    refine (HE.out x HM.out _).mono ?_
    rintro e w1 ⟨rfl, b1⟩
    have hz : wr.heap.size ≤ w1.heap.size := b1.size
    have B1 : Hid (Below w.heap.size w w1) := hD (HB.out.trans (b1.mono hge))
    have HO1 : Hid (w1.ownsRow w.heap.size 9 1 _ k (strC ((l.take k).map encSg))) := hD (ownsRow_below HO.out b1)
    clear b1 a0 a1 a2 a3 a4 a5
    go_wp2_with (at_builtin; refine wpList_append_own _ rfl _ _ 30 rfl w.heap.size 9 i0 _ 1 16 Tryz.underlying30 HI.out HZ0.out HZ1.out HZ2.out rfl (by decide) _ _ _ rfl (HO1.out.alloc _) ⟨w1.heap.size, 0, none⟩ 1 1 [.string ⟨(encSg x).toArray⟩] rfl rfl (cell_new _ _ _ _ rfl) (by simp [Value.oneCell']) (by simp [maxLen]; omega) (by omega) (by simp; omega) ?_)
    intro v' w2 hown' hgrow _
    have HO2 : Hid (w2.ownsRow w.heap.size 9 1 v' (k + 1) (strC ((l.take (k + 1)).map encSg))) := hD (by
     rw [List.take_succ_eq_append_getElem hlt, List.map_append, List.map_cons, List.map_nil, HX.out, strC_snoc]
     simpa only [List.map_take] using hown')
    have HG2 := hD hgrow
    clear hown' hgrow
    go_wp2_with fail
    go_roundw
    case rel =>
     refine ⟨k + 1, by go_num, by omega, HO2.out, below_grown (B1.out.alloc (by omega) _) (by simp; omega) HG2.out (fun g hg => (HO1.out.lt g hg).1), ?_⟩
     have := HG2.out.size; simp at this; omega
    case measure => simp [intOf]; omega
  · obtain rfl : k = l.length := by omega
    have HL : Hid (wr.ownsRow w.heap.size 9 1 _ l.length (strC (l.map encSg))) := hD (by have := HO.out; rwa [List.take_length] at this)
    obtain ⟨A', c', hv⟩ := ownsRow_form HL.out
    subst hv
    have HR2 := hD (Rd.own HL.out)
    go_wp2_with fail
    go_ret
    exact ret_strs _ _ (l.map encSg) rfl (by simp) HR2.out HB.out
open Go.RowKit
set_option maxRecDepth 100000 in
set_option maxHeartbeats 4000000 in
theorem refStatus_any (s : St) (w : World) (hok : s.ok w) (hs : s.sz ≤ 16777216) :
    Calls Tryz.prog 57 #[.agg #[.int .i64 s.server, .int .i64 s.view, .int .i64 s.length, .int .i64 s.lockView, .string ⟨s.lock.toArray⟩, .slice s.cert.a s.cert.l.length s.cert.c, .int .i64 s.signed.server, .int .i64 s.signed.kind, .int .i64 s.signed.view, .int .i64 s.signed.slot, .string ⟨s.signed.digest.toArray⟩, .string ⟨s.signed.sig.toArray⟩]] w (RetStr (encSt s) w) := by
 have hI := hok.1
 have hz := hs
 unfold St.sz at hz
 have HG : Hid (∀ w1, Calls Tryz.prog 61 #[.agg #[.int .i64 s.signed.server, .int .i64 s.signed.kind, .int .i64 s.signed.view, .int .i64 s.signed.slot, .string ⟨s.signed.digest.toArray⟩, .string ⟨s.signed.sig.toArray⟩]] w1 (RetStr (encSg s.signed) w1)) := hD (fun w1 => refSg_any s.signed w1 hok.2.2.2 (by omega))
 have HK : Hid (∀ w1, Below w.heap.size w w1 → Calls Tryz.prog 92 #[.slice s.cert.a s.cert.l.length s.cert.c] w1 (RetStrs (s.cert.l.map encSg) w1)) := hD (fun w1 hb => seals_any _ _ _ w1 (Sl.rd_below hok.2.1 hb) hok.2.2.1 (by omega))
 have HL : Hid (∀ w1 A c, Rd w1 1 A s.cert.l.length (strC (s.cert.l.map encSg)) → Calls Tryz.prog 62 #[.slice A s.cert.l.length c] w1 (RetStr (putList (s.cert.l.map encSg)) w1)) := hD (fun w1 A c hr => by have h3 := cert_len s.cert.l hok.2.2.1 (by omega); have h4 := refPutList_any A c (s.cert.l.map encSg) w1 (by simpa using hr) (by simp; omega) (by omega); simpa using h4)
 have hl1 := putInts_len [s.server, s.view, s.length, s.lockView] (by simpa [List.forall_mem_cons] using hI) (by simp)
 simp only [List.length_cons, List.length_nil] at hl1
 have hl2 := putStr_len s.lock (by omega)
 have hl3 := (cert_len s.cert.l hok.2.2.1 (by omega)).1
 have hl4 := encSg_len s.signed hok.2.2.2 (by omega)
 have hl5 := putStr_len (encSg s.signed) (by omega)
 have HX0 : Hid (∀ (w1 : World) (g : Nat) (R : Prop), (Bx w (stC s) 62 ((w1.alloc (.cells #[.int .i64 s.server, .int .i64 s.view, .int .i64 s.length, .int .i64 s.lockView] 3)).drew) ∧ R) → w1.heap.size = g → Calls Tryz.prog 59 #[.slice (some ⟨g, 0, none⟩) 4 4] ((w1.alloc (.cells #[.int .i64 s.server, .int .i64 s.view, .int .i64 s.length, .int .i64 s.lockView] 3)).drew) (Gives w (stC s) 62 (putInts [s.server, s.view, s.length, s.lockView]))) :=
  hD (fun w1 g _ hb hg => gives_ints [s.server, s.view, s.length, s.lockView] (by simp) (by simpa [List.forall_mem_cons] using hI) (fun A c W hr => refPutInts_any A c _ W hr (by simp) (by simpa [List.forall_mem_cons] using hI)) hb.1 hg)
 have HX1 : Hid (∀ (t : List UInt8) (w1 : World) (R : Prop), t.length ≤ 70368744177664 → (Bx w (stC s) 62 w1 ∧ R) → Calls Tryz.prog 60 #[.string ⟨t.toArray⟩] w1 (Gives w (stC s) 62 (putStr t))) :=
  hD (fun t w1 _ ht hb => gives_of hb.1 (refPutString_any t ht w1))
 have HX2 : Hid (∀ (w1 : World) (R : Prop), (Bx w (stC s) 62 w1 ∧ R) → Calls Tryz.prog 92 #[.slice s.cert.a s.cert.l.length s.cert.c] w1 (GivesStrs w (stC s) 62 (s.cert.l.length) (s.cert.l.map encSg))) :=
  hD (fun w1 _ hb => gives_strs hb.1 (HK.out w1 (bx_low hb.1)) (by simp))
 have HX3 : Hid (∀ (w1 : World) (R : Prop) (A : Option Addr) (c : Nat), (Bx w (stC s) 62 w1 ∧ R) → Rd w1 1 A (s.cert.l.length) (strC (s.cert.l.map encSg)) → Calls Tryz.prog 62 #[.slice A (s.cert.l.length) c] w1 (Gives w (stC s) 62 (putList (s.cert.l.map encSg)))) :=
  hD (fun w1 _ A c hb hr => gives_of hb.1 (HL.out w1 A c hr))
 have HX4 : Hid (∀ (w1 : World) (R : Prop), (Bx w (stC s) 62 w1 ∧ R) → Calls Tryz.prog 61 #[.agg #[.int .i64 s.signed.server, .int .i64 s.signed.kind, .int .i64 s.signed.view, .int .i64 s.signed.slot, .string ⟨s.signed.digest.toArray⟩, .string ⟨s.signed.sig.toArray⟩]] w1 (Gives w (stC s) 62 (encSg s.signed))) :=
  hD (fun w1 _ hb => gives_of hb.1 (HG.out w1))
 have HC : Hid (∀ w1, Bx w (stC s) 62 w1 → Bx w (stC s) 62 w1 ∧ w1.cell? ⟨w.heap.size, 0, none⟩ = some (.int .i64 s.server) ∧ w1.cell? ⟨w.heap.size, 1, none⟩ = some (.int .i64 s.view) ∧ w1.cell? ⟨w.heap.size, 2, none⟩ = some (.int .i64 s.length) ∧ w1.cell? ⟨w.heap.size, 3, none⟩ = some (.int .i64 s.lockView) ∧ w1.cell? ⟨w.heap.size, 4, none⟩ = some (.string ⟨s.lock.toArray⟩) ∧ w1.cell? ⟨w.heap.size, 5, none⟩ = some (.slice s.cert.a s.cert.l.length s.cert.c) ∧ w1.cell? ⟨w.heap.size, 6, none⟩ = some (.int .i64 s.signed.server) ∧ w1.cell? ⟨w.heap.size, 7, none⟩ = some (.int .i64 s.signed.kind) ∧ w1.cell? ⟨w.heap.size, 8, none⟩ = some (.int .i64 s.signed.view) ∧ w1.cell? ⟨w.heap.size, 9, none⟩ = some (.int .i64 s.signed.slot) ∧ w1.cell? ⟨w.heap.size, 10, none⟩ = some (.string ⟨s.signed.digest.toArray⟩) ∧ w1.cell? ⟨w.heap.size, 11, none⟩ = some (.string ⟨s.signed.sig.toArray⟩)) :=
  hD (fun w1 hb => ⟨hb, bx_cell hb 0 _ rfl, bx_cell hb 1 _ rfl, bx_cell hb 2 _ rfl, bx_cell hb 3 _ rfl, bx_cell hb 4 _ rfl, bx_cell hb 5 _ rfl, bx_cell hb 6 _ rfl, bx_cell hb 7 _ rfl, bx_cell hb 8 _ rfl, bx_cell hb 9 _ rfl, bx_cell hb 10 _ rfl, bx_cell hb 11 _ rfl⟩)
 have H0 := hD (bx_new w (stC s) 62)
 have hq0 : ¬ (9223372036854775807 < (putInts [s.server, s.view, s.length, s.lockView]).length + (putStr s.lock).length) := by omega
 have hq1 : ¬ (9223372036854775807 < (putInts [s.server, s.view, s.length, s.lockView]).length + (putStr s.lock).length + (putList (s.cert.l.map encSg)).length) := by omega
 have hq2 : ¬ (9223372036854775807 < (putInts [s.server, s.view, s.length, s.lockView]).length + (putStr s.lock).length + (putList (s.cert.l.map encSg)).length + (putStr (encSg s.signed)).length) := by omega
 clear hok hs
 go_enter Tryz.func57, Tryz.ntmps57
 go_wp2_with fail
 go_region_held3 (fun w1 => Bx w (stC s) 62 w1 ∧ w1.cell? ⟨w.heap.size, 0, none⟩ = some (.int .i64 s.server) ∧ w1.cell? ⟨w.heap.size, 1, none⟩ = some (.int .i64 s.view) ∧ w1.cell? ⟨w.heap.size, 2, none⟩ = some (.int .i64 s.length) ∧ w1.cell? ⟨w.heap.size, 3, none⟩ = some (.int .i64 s.lockView) ∧ w1.cell? ⟨w.heap.size, 4, none⟩ = some (.string ⟨s.lock.toArray⟩) ∧ w1.cell? ⟨w.heap.size, 5, none⟩ = some (.slice s.cert.a s.cert.l.length s.cert.c) ∧ w1.cell? ⟨w.heap.size, 6, none⟩ = some (.int .i64 s.signed.server) ∧ w1.cell? ⟨w.heap.size, 7, none⟩ = some (.int .i64 s.signed.kind) ∧ w1.cell? ⟨w.heap.size, 8, none⟩ = some (.int .i64 s.signed.view) ∧ w1.cell? ⟨w.heap.size, 9, none⟩ = some (.int .i64 s.signed.slot) ∧ w1.cell? ⟨w.heap.size, 10, none⟩ = some (.string ⟨s.signed.digest.toArray⟩) ∧ w1.cell? ⟨w.heap.size, 11, none⟩ = some (.string ⟨s.signed.sig.toArray⟩))
  (first | exact HC.out _ (bx_drew H0.out) | exact HC.out _ (bx_alloc (‹Bx _ _ _ _ ∧ _›).1 _) | exact HC.out _ ‹Bx _ _ _ _›)
  (first
   | (go_at_call 59; refine (HX0.out _ _ _ (by assumption) (by simp)).mono ?_; rintro e w2 ⟨rfl, b2⟩)
   | (go_at_call 60; refine (HX1.out _ _ _ (by omega) (by assumption)).mono ?_; rintro e w3 ⟨rfl, b3⟩)
   | (go_at_call 92; refine (HX2.out _ _ (by assumption)).mono ?_; rintro e w4 ⟨A2, c2, rfl, r2, b4⟩)
   | (go_at_call 62; refine (HX3.out _ _ _ _ (by assumption) ?_).mono ?_; assumption; rintro e w5 ⟨rfl, b5⟩)
   | (go_at_call 61; refine (HX4.out _ _ (by assumption)).mono ?_; rintro e w6 ⟨rfl, b6⟩))
 all_goals
  go_wp2_with fail
  go_ret
  exact ret_st (by rfl) (bx_low ‹_›)
set_option maxRecDepth 100000 in
set_option maxHeartbeats 4000000 in
theorem refEntry_any (d : De) (w : World) (hok : d.ok w) (hs : d.sz ≤ 16777216) :
    Calls Tryz.prog 58 #[.agg #[.int .i64 d.view, .string ⟨d.value.toArray⟩, .slice d.cert.a d.cert.l.length d.cert.c]] w (RetStr (encDe d) w) := by
 have hI := hok.1
 have hz := hs
 unfold De.sz at hz
 have HK : Hid (∀ w1, Below w.heap.size w w1 → Calls Tryz.prog 92 #[.slice d.cert.a d.cert.l.length d.cert.c] w1 (RetStrs (d.cert.l.map encSg) w1)) := hD (fun w1 hb => seals_any _ _ _ w1 (Sl.rd_below hok.2.1 hb) hok.2.2 (by omega))
 have HL : Hid (∀ w1 A c, Rd w1 1 A d.cert.l.length (strC (d.cert.l.map encSg)) → Calls Tryz.prog 62 #[.slice A d.cert.l.length c] w1 (RetStr (putList (d.cert.l.map encSg)) w1)) := hD (fun w1 A c hr => by have h3 := cert_len d.cert.l hok.2.2 (by omega); have h4 := refPutList_any A c (d.cert.l.map encSg) w1 (by simpa using hr) (by simp; omega) (by omega); simpa using h4)
 have hl1 := putInts_len [d.view] (by simpa [List.forall_mem_cons] using hI) (by simp)
 simp only [List.length_cons, List.length_nil] at hl1
 have hl2 := putStr_len d.value (by omega)
 have hl3 := (cert_len d.cert.l hok.2.2 (by omega)).1
 have HX0 : Hid (∀ (w1 : World) (g : Nat) (R : Prop), (Bx w (deC d) 103 ((w1.alloc (.cells #[.int .i64 d.view] 3)).drew) ∧ R) → w1.heap.size = g → Calls Tryz.prog 59 #[.slice (some ⟨g, 0, none⟩) 1 1] ((w1.alloc (.cells #[.int .i64 d.view] 3)).drew) (Gives w (deC d) 103 (putInts [d.view]))) :=
  hD (fun w1 g _ hb hg => gives_ints [d.view] (by simp) (by simpa [List.forall_mem_cons] using hI) (fun A c W hr => refPutInts_any A c _ W hr (by simp) (by simpa [List.forall_mem_cons] using hI)) hb.1 hg)
 have HX1 : Hid (∀ (t : List UInt8) (w1 : World) (R : Prop), t.length ≤ 70368744177664 → (Bx w (deC d) 103 w1 ∧ R) → Calls Tryz.prog 60 #[.string ⟨t.toArray⟩] w1 (Gives w (deC d) 103 (putStr t))) :=
  hD (fun t w1 _ ht hb => gives_of hb.1 (refPutString_any t ht w1))
 have HX2 : Hid (∀ (w1 : World) (R : Prop), (Bx w (deC d) 103 w1 ∧ R) → Calls Tryz.prog 92 #[.slice d.cert.a d.cert.l.length d.cert.c] w1 (GivesStrs w (deC d) 103 (d.cert.l.length) (d.cert.l.map encSg))) :=
  hD (fun w1 _ hb => gives_strs hb.1 (HK.out w1 (bx_low hb.1)) (by simp))
 have HX3 : Hid (∀ (w1 : World) (R : Prop) (A : Option Addr) (c : Nat), (Bx w (deC d) 103 w1 ∧ R) → Rd w1 1 A (d.cert.l.length) (strC (d.cert.l.map encSg)) → Calls Tryz.prog 62 #[.slice A (d.cert.l.length) c] w1 (Gives w (deC d) 103 (putList (d.cert.l.map encSg)))) :=
  hD (fun w1 _ A c hb hr => gives_of hb.1 (HL.out w1 A c hr))
 have HC : Hid (∀ w1, Bx w (deC d) 103 w1 → Bx w (deC d) 103 w1 ∧ w1.cell? ⟨w.heap.size, 0, none⟩ = some (.int .i64 d.view) ∧ w1.cell? ⟨w.heap.size, 1, none⟩ = some (.string ⟨d.value.toArray⟩) ∧ w1.cell? ⟨w.heap.size, 2, none⟩ = some (.slice d.cert.a d.cert.l.length d.cert.c)) :=
  hD (fun w1 hb => ⟨hb, bx_cell hb 0 _ rfl, bx_cell hb 1 _ rfl, bx_cell hb 2 _ rfl⟩)
 have H0 := hD (bx_new w (deC d) 103)
 have hq0 : ¬ (9223372036854775807 < (putInts [d.view]).length + (putStr d.value).length) := by omega
 have hq1 : ¬ (9223372036854775807 < (putInts [d.view]).length + (putStr d.value).length + (putList (d.cert.l.map encSg)).length) := by omega
 clear hok hs
 go_enter Tryz.func58, Tryz.ntmps58
 go_wp2_with fail
 go_region_held3 (fun w1 => Bx w (deC d) 103 w1 ∧ w1.cell? ⟨w.heap.size, 0, none⟩ = some (.int .i64 d.view) ∧ w1.cell? ⟨w.heap.size, 1, none⟩ = some (.string ⟨d.value.toArray⟩) ∧ w1.cell? ⟨w.heap.size, 2, none⟩ = some (.slice d.cert.a d.cert.l.length d.cert.c))
  (first | exact HC.out _ (bx_drew H0.out) | exact HC.out _ (bx_alloc (‹Bx _ _ _ _ ∧ _›).1 _) | exact HC.out _ ‹Bx _ _ _ _›)
  (first
   | (go_at_call 59; refine (HX0.out _ _ _ (by assumption) (by simp)).mono ?_; rintro e w2 ⟨rfl, b2⟩)
   | (go_at_call 60; refine (HX1.out _ _ _ (by omega) (by assumption)).mono ?_; rintro e w3 ⟨rfl, b3⟩)
   | (go_at_call 92; refine (HX2.out _ _ (by assumption)).mono ?_; rintro e w4 ⟨A2, c2, rfl, r2, b4⟩)
   | (go_at_call 62; refine (HX3.out _ _ _ _ (by assumption) ?_).mono ?_; assumption; rintro e w5 ⟨rfl, b5⟩))
 all_goals
  go_wp2_with fail
  go_ret
  exact ret_st (by rfl) (bx_low ‹_›)
open Go.RowKit
theorem hoC_len' (x : Ho) : (hoC x).length = 4 := rfl
theorem bx_grown {w w1 w2 : World} {cs : List Value} {T : TypeId} {row : Option Nat} (h : Bx w cs T w1) (hg : w1.grownBy w2 row) (hr : ∀ g, row = some g → w.heap.size + 1 ≤ g) : Bx w cs T w2 := below_grown h (bx_size h) hg hr
def Gives2 (w wr : World) (cs : List Value) (T : TypeId) (l : List UInt8) (e : Ending) (w' : World) : Prop := e = .returned (.string ⟨l.toArray⟩) ∧ Bx w cs T w' ∧ Below wr.heap.size wr w'
theorem gives2_of {P : Program} {k : FuncId} {args : Array Value} {w wr w1 : World} {cs : List Value} {T : TypeId} {l : List UInt8} (hb : Bx w cs T w1) (hc : Below wr.heap.size wr w1) (h : Calls P k args w1 (RetStr l w1)) : Calls P k args w1 (Gives2 w wr cs T l) :=
 h.mono fun _ _ ⟨he, hw⟩ => ⟨he, bx_on hb hw, bon hc hw⟩
theorem gives2_int {P : Program} {k : FuncId} {w wr w1 : World} {cs : List Value} {T : TypeId} (l : List Int) (_hl : l.length ≤ 100) (_hi : ∀ n ∈ l, I64 n)
    (hc : ∀ (A : Option Addr) (c : Nat) (w : World), Rd w 1 A l.length (intC l) → Calls P k #[.slice A l.length c] w (RetStr (putInts l) w)) (hb : Bx w cs T (w1.alloc (.cells (intC l).toArray 3)).drew) (hb2 : Below wr.heap.size wr (w1.alloc (.cells (intC l).toArray 3)).drew) {g : Nat} (hg : w1.heap.size = g) :
    Calls P k #[.slice (some ⟨g, 0, none⟩) l.length l.length] (w1.alloc (.cells (intC l).toArray 3)).drew (Gives2 w wr cs T (putInts l)) :=
 hg ▸ gives2_of hb hb2 (hc _ _ _ ((rd_new w1 1 l.length (intC l) 3 (by simp [intC])).below (Below.refl _ _).drew))
def GivesB (wr : World) (l : List UInt8) (e : Ending) (w' : World) : Prop := e = .returned (.string ⟨l.toArray⟩) ∧ Below wr.heap.size wr w'
theorem givesB_of {P : Program} {k : FuncId} {args : Array Value} {wr w1 : World} {l : List UInt8} (hb : Below wr.heap.size wr w1) (h : Calls P k args w1 (RetStr l w1)) : Calls P k args w1 (GivesB wr l) :=
 h.mono fun _ _ ⟨he, hw⟩ => ⟨he, bon hb hw⟩
theorem givesB_int {P : Program} {k : FuncId} {wr w1 : World} (l : List Int)
    (hc : ∀ (A : Option Addr) (c : Nat) (w : World), Rd w 1 A l.length (intC l) → Calls P k #[.slice A l.length c] w (RetStr (putInts l) w)) (hb : Below wr.heap.size wr (w1.alloc (.cells (intC l).toArray 3)).drew) {g : Nat} (hg : w1.heap.size = g) :
    Calls P k #[.slice (some ⟨g, 0, none⟩) l.length l.length] (w1.alloc (.cells (intC l).toArray 3)).drew (GivesB wr (putInts l)) :=
 hg ▸ givesB_of hb (hc _ _ _ ((rd_new w1 1 l.length (intC l) 3 (by simp [intC])).below (Below.refl _ _).drew))
def GivesStrsB (wr : World) (n : Nat) (l : List (List UInt8)) (e : Ending) (w' : World) : Prop := ∃ A c, e = .returned (.slice A n c) ∧ Rd w' 1 A n (strC l) ∧ Below wr.heap.size wr w'
theorem givesB_strs {P : Program} {k : FuncId} {args : Array Value} {wr w1 : World} {l : List (List UInt8)} (hb : Below wr.heap.size wr w1) {n : Nat} (h : Calls P k args w1 (RetStrs l w1)) (hn : l.length = n) : Calls P k args w1 (GivesStrsB wr n l) :=
 h.mono fun _ _ ⟨A, c, he, hr, hw⟩ => ⟨A, c, by rw [he, hn], by rw [← hn]; exact hr, bon hb hw⟩
set_option maxRecDepth 100000 in
set_option maxHeartbeats 8000000 in
theorem refSnapshot_any (x : Sn) (w : World) (hok : x.ok w) (hs : x.sz ≤ 16777216) :
    Calls Tryz.prog 63 #[.agg #[.int .i64 x.slot, .string ⟨x.root.toArray⟩, .slice x.chunks.a x.chunks.l.length x.chunks.c, .slice x.proof.a x.proof.l.length x.proof.c, .slice x.chain.a x.chain.l.length x.chain.c]] w (RetStr (encSn x) w) := by
 obtain ⟨i0, hi, hz0, hz1, hz2⟩ := info_parts infoS
 have HI := hD hi
 have HZ0 := hD hz0
 have HZ1 := hD hz1
 have HZ2 := hD hz2
 have HOK := hD hok
 have HR : Hid (Rd w 4 x.chain.a x.chain.l.length (x.chain.l.flatMap hoC)) := hD hok.2.2.2.1
 have hz := hs
 unfold Sn.sz at hz
 have hch := strL_len x.chunks.l (by omega)
 have hll := list_len encHo Ho.sz x.chain.l (fun y hy => encHo_len y w (hok.2.2.2.2 y hy) (by have := sum_get Ho.sz _ y hy; omega)) (fun y => by have := y.sz_ge; omega) (by omega)
 have hn : x.chain.l.length ≤ 16777216 := by omega
 have HSZ : Hid (∀ y ∈ x.chain.l, y.sz ≤ 16777216) := hD (fun y hy => by have := sum_get Ho.sz _ y hy; omega)
 have HK : Hid (∀ w1, Below w.heap.size w w1 → Calls Tryz.prog 92 #[.slice x.proof.a x.proof.l.length x.proof.c] w1 (RetStrs (x.proof.l.map encSg) w1)) := hD (fun w1 hb => seals_any _ _ _ w1 (Sl.rd_below hok.2.2.1.1 hb) hok.2.2.1.2 (by omega))
 have HL : Hid (∀ w1 A c, Rd w1 1 A x.proof.l.length (strC (x.proof.l.map encSg)) → Calls Tryz.prog 62 #[.slice A x.proof.l.length c] w1 (RetStr (putList (x.proof.l.map encSg)) w1)) := hD (fun w1 A c hr => by have h3 := cert_len x.proof.l hok.2.2.1.2 (by omega); have h4 := refPutList_any A c (x.proof.l.map encSg) w1 (by simpa using hr) (by simp; omega) (by omega); simpa using h4)
 have HM : Hid (∀ w1 A c, Rd w1 1 A x.chain.l.length (strC (x.chain.l.map encHo)) → Calls Tryz.prog 62 #[.slice A x.chain.l.length c] w1 (RetStr (putList (x.chain.l.map encHo)) w1)) := hD (fun w1 A c hr => by have h4 := refPutList_any A c (x.chain.l.map encHo) w1 (by simpa using hr) (by simp; omega) (by omega); simpa using h4)
 have HN : Hid (∀ w1, Below w.heap.size w w1 → Calls Tryz.prog 62 #[.slice x.chunks.a x.chunks.l.length x.chunks.c] w1 (RetStr (putList x.chunks.l) w1)) := hD (fun w1 hb => refPutList_any _ _ _ w1 (by have := Sl.rd_below hok.2.1 hb; unfold Sl.rd at this; rwa [strV_strC] at this) (by omega) (by omega))
 have hI := hok.1
 have hl1 := putInts_len [x.slot] (by simpa [List.forall_mem_cons] using hI) (by simp)
 simp only [List.length_cons, List.length_nil] at hl1
 have hl2 := putStr_len x.root (by omega)
 have hl3 := (cert_len x.proof.l hok.2.2.1.2 (by omega)).1
 have hl4 := hch.1
 have hl5 := hll.1
 have HC5 : Hid (∀ w1, Bx w (snC x) 48 w1 → Bx w (snC x) 48 w1 ∧ w1.cell? ⟨w.heap.size, 0, none⟩ = some (.int .i64 x.slot) ∧ w1.cell? ⟨w.heap.size, 1, none⟩ = some (.string ⟨x.root.toArray⟩) ∧ w1.cell? ⟨w.heap.size, 2, none⟩ = some (.slice x.chunks.a x.chunks.l.length x.chunks.c) ∧ w1.cell? ⟨w.heap.size, 3, none⟩ = some (.slice x.proof.a x.proof.l.length x.proof.c) ∧ w1.cell? ⟨w.heap.size, 4, none⟩ = some (.slice x.chain.a x.chain.l.length x.chain.c)) :=
  hD (fun w1 hb => ⟨hb, bx_cell hb 0 _ rfl, bx_cell hb 1 _ rfl, bx_cell hb 2 _ rfl, bx_cell hb 3 _ rfl, bx_cell hb 4 _ rfl⟩)
 have hq0 : ¬ (9223372036854775807 < (putInts [x.slot]).length + (putStr x.root).length) := by omega
 have hq1 : ¬ (9223372036854775807 < (putInts [x.slot]).length + (putStr x.root).length + (putList x.chunks.l).length) := by omega
 have hq2 : ¬ (9223372036854775807 < (putInts [x.slot]).length + (putStr x.root).length + (putList x.chunks.l).length + (putList (x.proof.l.map encSg)).length) := by omega
 have hq3 : ¬ (9223372036854775807 < (putInts [x.slot]).length + (putStr x.root).length + (putList x.chunks.l).length + (putList (x.proof.l.map encSg)).length + (putList (x.chain.l.map encHo)).length) := by omega
 have HB0 := hD (bx_new w (snC x) 48)
 clear hi hz0 hz1 hz2 hok hch hll
 go_enter Tryz.func63, Tryz.ntmps63
 go_wp2_with fail
 go_loopw [3, 4] (fun o i wr => ∃ k : Nat, i = .int .i64 k ∧ k ≤ x.chain.l.length ∧ wr.ownsRow (w.heap.size + 1) 9 1 o k (strC ((x.chain.l.take k).map encHo)) ∧ Bx w (snC x) 48 wr) (fun _ i _ => x.chain.l.length - (intOf i).toNat)
 case atStart => exact ⟨0, rfl, by omega, by simpa [strC] using World.ownsRow_nil _ _ _ _, HB0.out⟩
 case round =>
  obtain ⟨k, rfl, hk, hown, hb⟩ := hrel
  have HO := hD hown
  have HB := hD hb
  obtain ⟨-, b0, b1, b2, b3, b4⟩ := HC5.out wr hb
  have hge := bx_size hb
  clear hown hb
  by_cases hlt : k < x.chain.l.length
  · have i0' : (0 : Int) ≤ (k : Int) := by omega
    have i1 : (k : Int) < (x.chain.l.length : Int) := by omega
    obtain ⟨g, o, hxa, hg, hcc⟩ := HR.out.at hoC_len' (by omega) hlt
    obtain ⟨y, hy⟩ : ∃ y, y = x.chain.l[k] := ⟨_, rfl⟩
    have HY := hD hy.symm
    have hM : y ∈ x.chain.l := hy ▸ List.getElem_mem hlt
    have hyok := HOK.out.2.2.2.2 y hM
    have hysz := HSZ.out y hM
    have hyl := encHo_len y w hyok hysz
    have hye : (encHo y).length = (putInts [y.slot]).length + (encDe y.entry).length := by simp [encHo]
    clear hy
    rw [hxa] at b4
    have HXA := hD hxa
    clear hxa
    have HC : Hid (∀ w1, Bx w (snC x) 48 w1 → Bx w (snC x) 48 w1 ∧ w1.cell? ⟨w.heap.size, 4, none⟩ = some (.slice (some ⟨g, o, none⟩) x.chain.l.length x.chain.c) ∧ w1.cell? ⟨g, o + k * 4, none⟩ = some (.int .i64 y.slot) ∧ w1.cell? ⟨g, o + k * 4 + 1, none⟩ = some (.int .i64 y.entry.view) ∧ w1.cell? ⟨g, o + k * 4 + 2, none⟩ = some (.string ⟨y.entry.value.toArray⟩) ∧ w1.cell? ⟨g, o + k * 4 + 3, none⟩ = some (.slice y.entry.cert.a y.entry.cert.l.length y.entry.cert.c)) :=
     hD (fun w1 hb => ⟨hb, by have := (HC5.out w1 hb).2.2.2.2.2; rwa [HXA.out] at this, by simpa using hcc w1 (bx_low hb) 0 _ (by rw [HY.out]; rfl), hcc w1 (bx_low hb) 1 _ (by rw [HY.out]; rfl), hcc w1 (bx_low hb) 2 _ (by rw [HY.out]; rfl), hcc w1 (bx_low hb) 3 _ (by rw [HY.out]; rfl)⟩)
    have HP : Hid (∀ (w1 : World) (g : Nat) (R : Prop), (Bx w (snC x) 48 ((w1.alloc (.cells #[.int .i64 y.slot] 3)).drew) ∧ R) → Below wr.heap.size wr ((w1.alloc (.cells #[.int .i64 y.slot] 3)).drew) → w1.heap.size = g → Calls Tryz.prog 59 #[.slice (some ⟨g, 0, none⟩) 1 1] ((w1.alloc (.cells #[.int .i64 y.slot] 3)).drew) (Gives2 w wr (snC x) 48 (putInts [y.slot]))) :=
     hD (fun w1 g _ hb hb2 hg => gives2_int [y.slot] (by simp) (by simpa [List.forall_mem_cons] using hyok.1) (fun A c W hr => refPutInts_any A c _ W hr (by simp) (by simpa [List.forall_mem_cons] using hyok.1)) hb.1 hb2 hg)
    have HQ : Hid (∀ (w1 : World) (R : Prop), (Bx w (snC x) 48 w1 ∧ R) → Below wr.heap.size wr w1 → Calls Tryz.prog 58 #[.agg #[.int .i64 y.entry.view, .string ⟨y.entry.value.toArray⟩, .slice y.entry.cert.a y.entry.cert.l.length y.entry.cert.c]] w1 (Gives2 w wr (snC x) 48 (encDe y.entry))) :=
     hD (fun w1 _ hb hb2 => gives2_of hb.1 hb2 (refEntry_any y.entry w1 (De.below hyok.2 (bx_low hb.1)) (by unfold Ho.sz at hysz; omega)))
    have HOW : Hid (∀ w1, Below wr.heap.size wr w1 → w1.ownsRow (w.heap.size + 1) 9 1 _ k (strC ((x.chain.l.take k).map encHo))) := hD (fun w1 hb => ownsRow_below HO.out hb)
    have HOB : Hid (∀ b, _ = some b → w.heap.size + 1 ≤ b) := hD (fun b hb => (HO.out.lt b hb).1)
    have hqa : ¬ (9223372036854775807 < (putInts [y.slot]).length + (encDe y.entry).length) := by omega
    clear hcc hyok
    go_wp2_with fail
    go_region_held3 (fun w1 => Bx w (snC x) 48 w1 ∧ w1.cell? ⟨w.heap.size, 4, none⟩ = some (.slice (some ⟨g, o, none⟩) x.chain.l.length x.chain.c) ∧ w1.cell? ⟨g, o + k * 4, none⟩ = some (.int .i64 y.slot) ∧ w1.cell? ⟨g, o + k * 4 + 1, none⟩ = some (.int .i64 y.entry.view) ∧ w1.cell? ⟨g, o + k * 4 + 2, none⟩ = some (.string ⟨y.entry.value.toArray⟩) ∧ w1.cell? ⟨g, o + k * 4 + 3, none⟩ = some (.slice y.entry.cert.a y.entry.cert.l.length y.entry.cert.c))
     (first | exact HC.out _ (bx_drew HB.out) | exact HC.out _ (bx_alloc (‹Bx _ _ _ _ ∧ _›).1 _) | exact HC.out _ ‹Bx _ _ _ _› | exact HC.out _ (bx_drew (bx_alloc ‹Bx _ _ _ _› _)) | exact HC.out _ (bx_grown (‹Bx _ _ _ _ ∧ _›).1 ‹_› HOB.out))
     (first
      | (go_at_call 59; refine (HP.out _ _ _ (by assumption) (by repeat' (first | exact Below.refl _ _ | apply Below.drew | refine Below.alloc ?_ (by simp) _)) (by simp)).mono ?_; rintro e w2 ⟨rfl, c2, d2⟩)
      | (go_at_call 58; refine (HQ.out _ _ (by assumption) (by first | assumption | exact Below.drew ‹Below wr.heap.size wr _›)).mono ?_; rintro e w3 ⟨rfl, c3, d3⟩)
      | (refine step_append_lies _ (by rfl) _ _ _ (by rfl) (w.heap.size + 1) 9 i0 _ 1 16 Tryz.underlying30 HI.out HZ0.out HZ1.out HZ2.out rfl (by decide) _ _ _ (by rfl) (((HOW.out _ ‹Below wr.heap.size wr _›).alloc _).drew) _ 1 1 [.string ⟨(putInts [y.slot] ++ encDe y.entry).toArray⟩] (by rfl) (by rfl) (World.news_of_block (cs := #[.string ⟨(putInts [y.slot] ++ encDe y.entry).toArray⟩]) (t := 9) (fr := (0, 0)) (heap_alloc_new _ _)) (by simp [Value.oneCell']) (by omega) (by simp [maxLen]; omega) (by omega) (by have hz := bx_size c3; simp; omega) _ rfl ?_; intro gg cap w4 hown1 hgrow hat hlt4))
    all_goals
     have HO3 : Hid (w4.ownsRow (w.heap.size + 1) 9 1 _ (k + 1) (strC ((x.chain.l.take (k + 1)).map encHo))) := hD (by
      rw [List.take_succ_eq_append_getElem hlt, List.map_append, List.map_cons, List.map_nil, HY.out, strC_snoc, show encHo y = putInts [y.slot] ++ encDe y.entry from rfl]
      simpa only [List.map_take] using hown1)
     have HG3 := hD hgrow
     have HB3 := hD c3
     clear hown1 hgrow hat c3 d3
     go_wp2_with fail
     go_roundw
     case rel =>
      exact ⟨k + 1, by go_num, by omega, HO3.out, bx_grown (bx_alloc HB3.out _) HG3.out HOB.out⟩
     case measure => simp [intOf]; omega
  · obtain rfl : k = x.chain.l.length := by omega
    have HL2 : Hid (wr.ownsRow (w.heap.size + 1) 9 1 _ x.chain.l.length (strC (x.chain.l.map encHo))) := hD (by have := HO.out; rwa [List.take_length] at this)
    obtain ⟨A', c', hv⟩ := ownsRow_form HL2.out
    subst hv
    have hcl := HC5.out wr HB.out
    clear b0 b1 b2 b3 b4
    obtain ⟨-, b0, b1, b2, b3, b4⟩ := hcl
    have HC6 : Hid (∀ w1, Below wr.heap.size wr w1 → Below wr.heap.size wr w1 ∧ w1.cell? ⟨w.heap.size, 0, none⟩ = some (.int .i64 x.slot) ∧ w1.cell? ⟨w.heap.size, 1, none⟩ = some (.string ⟨x.root.toArray⟩) ∧ w1.cell? ⟨w.heap.size, 2, none⟩ = some (.slice x.chunks.a x.chunks.l.length x.chunks.c) ∧ w1.cell? ⟨w.heap.size, 3, none⟩ = some (.slice x.proof.a x.proof.l.length x.proof.c)) :=
     hD (fun w1 hb => ⟨hb, (hb.cell (p := ⟨w.heap.size, 0, none⟩) (by show w.heap.size < _; omega)).trans b0, (hb.cell (p := ⟨w.heap.size, 1, none⟩) (by show w.heap.size < _; omega)).trans b1, (hb.cell (p := ⟨w.heap.size, 2, none⟩) (by show w.heap.size < _; omega)).trans b2, (hb.cell (p := ⟨w.heap.size, 3, none⟩) (by show w.heap.size < _; omega)).trans b3⟩)
    have HLB : Hid (∀ w1, Below wr.heap.size wr w1 → Below w.heap.size w w1) := hD (fun w1 hb => (bx_low HB.out).trans (hb.mono (by omega)))
    have HX0 : Hid (∀ (w1 : World) (g : Nat) (R : Prop), (Below wr.heap.size wr ((w1.alloc (.cells #[.int .i64 x.slot] 3)).drew) ∧ R) → w1.heap.size = g → Calls Tryz.prog 59 #[.slice (some ⟨g, 0, none⟩) 1 1] ((w1.alloc (.cells #[.int .i64 x.slot] 3)).drew) (GivesB wr (putInts [x.slot]))) :=
     hD (fun w1 g _ hb hg => givesB_int [x.slot] (fun A c W hr => refPutInts_any A c _ W hr (by simp) (by simpa [List.forall_mem_cons] using hI)) hb.1 hg)
    have HX1 : Hid (∀ (t : List UInt8) (w1 : World) (R : Prop), t.length ≤ 70368744177664 → (Below wr.heap.size wr w1 ∧ R) → Calls Tryz.prog 60 #[.string ⟨t.toArray⟩] w1 (GivesB wr (putStr t))) :=
     hD (fun t w1 _ ht hb => givesB_of hb.1 (refPutString_any t ht w1))
    have HX2 : Hid (∀ (w1 : World) (R : Prop), (Below wr.heap.size wr w1 ∧ R) → Calls Tryz.prog 62 #[.slice x.chunks.a x.chunks.l.length x.chunks.c] w1 (GivesB wr (putList x.chunks.l))) :=
     hD (fun w1 _ hb => givesB_of hb.1 (HN.out w1 (HLB.out w1 hb.1)))
    have HX3 : Hid (∀ (w1 : World) (R : Prop), (Below wr.heap.size wr w1 ∧ R) → Calls Tryz.prog 92 #[.slice x.proof.a x.proof.l.length x.proof.c] w1 (GivesStrsB wr x.proof.l.length (x.proof.l.map encSg))) :=
     hD (fun w1 _ hb => givesB_strs hb.1 (HK.out w1 (HLB.out w1 hb.1)) (by simp))
    have HX4 : Hid (∀ (w1 : World) (R : Prop) (A : Option Addr) (c : Nat), (Below wr.heap.size wr w1 ∧ R) → Rd w1 1 A x.proof.l.length (strC (x.proof.l.map encSg)) → Calls Tryz.prog 62 #[.slice A x.proof.l.length c] w1 (GivesB wr (putList (x.proof.l.map encSg)))) :=
     hD (fun w1 _ A c hb hr => givesB_of hb.1 (HL.out w1 A c hr))
    have HX5 : Hid (∀ (w1 : World) (R : Prop), (Below wr.heap.size wr w1 ∧ R) → Calls Tryz.prog 62 #[.slice A' x.chain.l.length c'] w1 (GivesB wr (putList (x.chain.l.map encHo)))) :=
     hD (fun w1 _ hb => givesB_of hb.1 (HM.out w1 _ _ ((Rd.own HL2.out).below hb.1)))
    go_wp2_with fail
    go_region_held3 (fun w1 => Below wr.heap.size wr w1 ∧ w1.cell? ⟨w.heap.size, 0, none⟩ = some (.int .i64 x.slot) ∧ w1.cell? ⟨w.heap.size, 1, none⟩ = some (.string ⟨x.root.toArray⟩) ∧ w1.cell? ⟨w.heap.size, 2, none⟩ = some (.slice x.chunks.a x.chunks.l.length x.chunks.c) ∧ w1.cell? ⟨w.heap.size, 3, none⟩ = some (.slice x.proof.a x.proof.l.length x.proof.c))
     (first | exact HC6.out _ (Below.refl _ _).drew | exact HC6.out _ (Below.alloc (‹Below _ _ _ ∧ _›).1 (Below.size (‹Below _ _ _ ∧ _›).1) _) | exact HC6.out _ ‹Below wr.heap.size wr _›)
     (first
      | (go_at_call 59; refine (HX0.out _ _ _ (by assumption) (by simp)).mono ?_; rintro e w2 ⟨rfl, c2⟩)
      | (go_at_call 60; refine (HX1.out _ _ _ (by omega) (by assumption)).mono ?_; rintro e w3 ⟨rfl, c3⟩)
      | (go_at_call 92; refine (HX3.out _ _ (by assumption)).mono ?_; rintro e w5 ⟨A5, c5, rfl, r5, d5⟩)
      | (go_at_call_of 62 (Value.slice x.chunks.a x.chunks.l.length x.chunks.c); refine (HX2.out _ _ (by assumption)).mono ?_; rintro e w4 ⟨rfl, c4⟩)
      | (go_at_call_of 62 (Value.slice A' x.chain.l.length c'); refine (HX5.out _ _ (by assumption)).mono ?_; rintro e w7 ⟨rfl, c7⟩)
      | (go_at_call 62; refine (HX4.out _ _ _ _ (by assumption) ?_).mono ?_; assumption; rintro e w6 ⟨rfl, c6⟩))
    all_goals
     go_wp2_with fail
     go_ret
     exact ret_st (by rfl) (HLB.out _ ‹_›)
open Go.RowKit
theorem stC_len'' (x : St) : (stC x).length = 12 := rfl
theorem deC_len'' (x : De) : (deC x).length = 3 := rfl
set_option maxRecDepth 100000 in
set_option maxHeartbeats 16000000 in
theorem refEncode_any (m : Ms) (w : World) (hok : m.ok w) (hs : m.sz ≤ 16777216) :
    Calls Tryz.prog 32 #[.agg #[.int .i64 m.kind, .int .i64 m.src, .int .i64 m.dst, .int .i64 m.view, .int .i64 m.slot, .string ⟨m.value.toArray⟩, .int .i64 m.till, .int .i64 m.signed.server, .int .i64 m.signed.kind, .int .i64 m.signed.view, .int .i64 m.signed.slot, .string ⟨m.signed.digest.toArray⟩, .string ⟨m.signed.sig.toArray⟩, .slice m.statuses.a m.statuses.l.length m.statuses.c, .slice m.entries.a m.entries.l.length m.entries.c, .int .i64 m.snapshot.slot, .string ⟨m.snapshot.root.toArray⟩, .slice m.snapshot.chunks.a m.snapshot.chunks.l.length m.snapshot.chunks.c, .slice m.snapshot.proof.a m.snapshot.proof.l.length m.snapshot.proof.c, .slice m.snapshot.chain.a m.snapshot.chain.l.length m.snapshot.chain.c, .slice m.texts.a m.texts.l.length m.texts.c]] w (RetStr (encMs m) w) := by
 obtain ⟨i0, hi, hz0, hz1, hz2⟩ := info_parts infoS
 have HI := hD hi
 have HZ0 := hD hz0
 have HZ1 := hD hz1
 have HZ2 := hD hz2
 have HRSt : Hid (Rd w 12 m.statuses.a m.statuses.l.length (m.statuses.l.flatMap stC)) := hD hok.2.2.1.1
 have HRDe : Hid (Rd w 3 m.entries.a m.entries.l.length (m.entries.l.flatMap deC)) := hD hok.2.2.2.1.1
 have hz := hs
 unfold Ms.sz at hz
 have hch := strL_len m.texts.l (by omega)
 have hls := list_len encSt St.sz m.statuses.l (fun y hy => encSt_len y w (hok.2.2.1.2 y hy) (by have := sum_get St.sz _ y hy; omega)) (fun y => by have := y.sz_ge; omega) (by omega)
 have hle := list_len encDe De.sz m.entries.l (fun y hy => encDe_len y w (hok.2.2.2.1.2 y hy) (by have := sum_get De.sz _ y hy; omega)) (fun y => y.sz_ge) (by omega)
 have hn1 : m.statuses.l.length ≤ 16777216 := by omega
 have hn2 : m.entries.l.length ≤ 16777216 := by omega
 have HESt : Hid (∀ x ∈ m.statuses.l, ∀ w1, Below w.heap.size w w1 → Calls Tryz.prog 57 #[.agg #[.int .i64 x.server, .int .i64 x.view, .int .i64 x.length, .int .i64 x.lockView, .string ⟨x.lock.toArray⟩, .slice x.cert.a x.cert.l.length x.cert.c, .int .i64 x.signed.server, .int .i64 x.signed.kind, .int .i64 x.signed.view, .int .i64 x.signed.slot, .string ⟨x.signed.digest.toArray⟩, .string ⟨x.signed.sig.toArray⟩]] w1 (RetStr (encSt x) w1)) :=
  hD (fun x hx w1 hb => refStatus_any x w1 (St.below (hok.2.2.1.2 x hx) hb) (by have := sum_get St.sz _ x hx; omega))
 have HEDe : Hid (∀ x ∈ m.entries.l, ∀ w1, Below w.heap.size w w1 → Calls Tryz.prog 58 #[.agg #[.int .i64 x.view, .string ⟨x.value.toArray⟩, .slice x.cert.a x.cert.l.length x.cert.c]] w1 (RetStr (encDe x) w1)) :=
  hD (fun x hx w1 hb => refEntry_any x w1 (De.below (hok.2.2.2.1.2 x hx) hb) (by have := sum_get De.sz _ x hx; omega))
 have HG : Hid (∀ w1, Calls Tryz.prog 61 #[.agg #[.int .i64 m.signed.server, .int .i64 m.signed.kind, .int .i64 m.signed.view, .int .i64 m.signed.slot, .string ⟨m.signed.digest.toArray⟩, .string ⟨m.signed.sig.toArray⟩]] w1 (RetStr (encSg m.signed) w1)) := hD (fun w1 => refSg_any m.signed w1 hok.2.1 (by omega))
 have HN : Hid (∀ w1, Below w.heap.size w w1 → Calls Tryz.prog 63 #[.agg #[.int .i64 m.snapshot.slot, .string ⟨m.snapshot.root.toArray⟩, .slice m.snapshot.chunks.a m.snapshot.chunks.l.length m.snapshot.chunks.c, .slice m.snapshot.proof.a m.snapshot.proof.l.length m.snapshot.proof.c, .slice m.snapshot.chain.a m.snapshot.chain.l.length m.snapshot.chain.c]] w1 (RetStr (encSn m.snapshot) w1)) := hD (fun w1 hb => refSnapshot_any _ w1 (Sn.below hok.2.2.2.2.1 hb) (by omega))
 have HT : Hid (∀ w1, Below w.heap.size w w1 → Calls Tryz.prog 62 #[.slice m.texts.a m.texts.l.length m.texts.c] w1 (RetStr (putList m.texts.l) w1)) := hD (fun w1 hb => refPutList_any _ _ _ w1 (by have := Sl.rd_below hok.2.2.2.2.2 hb; unfold Sl.rd at this; rwa [strV_strC] at this) (by omega) (by omega))
 have HS : Hid (∀ w1 A c, Rd w1 1 A m.statuses.l.length (strC (m.statuses.l.map encSt)) → Calls Tryz.prog 62 #[.slice A m.statuses.l.length c] w1 (RetStr (putList (m.statuses.l.map encSt)) w1)) := hD (fun w1 A c hr => by have h4 := refPutList_any A c (m.statuses.l.map encSt) w1 (by simpa using hr) (by simp; omega) (by omega); simpa using h4)
 have HD : Hid (∀ w1 A c, Rd w1 1 A m.entries.l.length (strC (m.entries.l.map encDe)) → Calls Tryz.prog 62 #[.slice A m.entries.l.length c] w1 (RetStr (putList (m.entries.l.map encDe)) w1)) := hD (fun w1 A c hr => by have h4 := refPutList_any A c (m.entries.l.map encDe) w1 (by simpa using hr) (by simp; omega) (by omega); simpa using h4)
 have hI := hok.1
 have hl1 := putInts_len [m.kind, m.src, m.dst, m.view, m.slot, m.till] (by simpa [List.forall_mem_cons] using hI) (by simp)
 simp only [List.length_cons, List.length_nil] at hl1
 have hl2 := putStr_len m.value (by omega)
 have hl3 := encSg_len m.signed hok.2.1 (by omega)
 have hl4 := putStr_len (encSg m.signed) (by omega)
 have hl5 := hls.1
 have hl6 := hle.1
 have hl7 := encSn_len m.snapshot w hok.2.2.2.2.1 (by omega)
 have hl8 := putStr_len (encSn m.snapshot) (by omega)
 have hl9 := hch.1
 have hq0 : ¬ (9223372036854775807 < (putInts [m.kind, m.src, m.dst, m.view, m.slot, m.till]).length + (putStr m.value).length) := by omega
 have hq1 : ¬ (9223372036854775807 < (putInts [m.kind, m.src, m.dst, m.view, m.slot, m.till]).length + (putStr m.value).length + (putStr (encSg m.signed)).length) := by omega
 have hq2 : ¬ (9223372036854775807 < (putInts [m.kind, m.src, m.dst, m.view, m.slot, m.till]).length + (putStr m.value).length + (putStr (encSg m.signed)).length + (putList (m.statuses.l.map encSt)).length) := by omega
 have hq3 : ¬ (9223372036854775807 < (putInts [m.kind, m.src, m.dst, m.view, m.slot, m.till]).length + (putStr m.value).length + (putStr (encSg m.signed)).length + (putList (m.statuses.l.map encSt)).length + (putList (m.entries.l.map encDe)).length) := by omega
 have hq4 : ¬ (9223372036854775807 < (putInts [m.kind, m.src, m.dst, m.view, m.slot, m.till]).length + (putStr m.value).length + (putStr (encSg m.signed)).length + (putList (m.statuses.l.map encSt)).length + (putList (m.entries.l.map encDe)).length + (putStr (encSn m.snapshot)).length) := by omega
 have hq5 : ¬ (9223372036854775807 < (putInts [m.kind, m.src, m.dst, m.view, m.slot, m.till]).length + (putStr m.value).length + (putStr (encSg m.signed)).length + (putList (m.statuses.l.map encSt)).length + (putList (m.entries.l.map encDe)).length + (putStr (encSn m.snapshot)).length + (putList m.texts.l).length) := by omega
 have HC5 : Hid (∀ w1, Bx w (msC m) 50 w1 → w1.cell? ⟨w.heap.size, 0, none⟩ = some (.int .i64 m.kind) ∧ w1.cell? ⟨w.heap.size, 1, none⟩ = some (.int .i64 m.src) ∧ w1.cell? ⟨w.heap.size, 2, none⟩ = some (.int .i64 m.dst) ∧ w1.cell? ⟨w.heap.size, 3, none⟩ = some (.int .i64 m.view) ∧ w1.cell? ⟨w.heap.size, 4, none⟩ = some (.int .i64 m.slot) ∧ w1.cell? ⟨w.heap.size, 5, none⟩ = some (.string ⟨m.value.toArray⟩) ∧ w1.cell? ⟨w.heap.size, 6, none⟩ = some (.int .i64 m.till) ∧ w1.cell? ⟨w.heap.size, 7, none⟩ = some (.int .i64 m.signed.server) ∧ w1.cell? ⟨w.heap.size, 8, none⟩ = some (.int .i64 m.signed.kind) ∧ w1.cell? ⟨w.heap.size, 9, none⟩ = some (.int .i64 m.signed.view) ∧ w1.cell? ⟨w.heap.size, 10, none⟩ = some (.int .i64 m.signed.slot) ∧ w1.cell? ⟨w.heap.size, 11, none⟩ = some (.string ⟨m.signed.digest.toArray⟩) ∧ w1.cell? ⟨w.heap.size, 12, none⟩ = some (.string ⟨m.signed.sig.toArray⟩) ∧ w1.cell? ⟨w.heap.size, 13, none⟩ = some (.slice m.statuses.a m.statuses.l.length m.statuses.c) ∧ w1.cell? ⟨w.heap.size, 14, none⟩ = some (.slice m.entries.a m.entries.l.length m.entries.c) ∧ w1.cell? ⟨w.heap.size, 15, none⟩ = some (.int .i64 m.snapshot.slot) ∧ w1.cell? ⟨w.heap.size, 16, none⟩ = some (.string ⟨m.snapshot.root.toArray⟩) ∧ w1.cell? ⟨w.heap.size, 17, none⟩ = some (.slice m.snapshot.chunks.a m.snapshot.chunks.l.length m.snapshot.chunks.c) ∧ w1.cell? ⟨w.heap.size, 18, none⟩ = some (.slice m.snapshot.proof.a m.snapshot.proof.l.length m.snapshot.proof.c) ∧ w1.cell? ⟨w.heap.size, 19, none⟩ = some (.slice m.snapshot.chain.a m.snapshot.chain.l.length m.snapshot.chain.c) ∧ w1.cell? ⟨w.heap.size, 20, none⟩ = some (.slice m.texts.a m.texts.l.length m.texts.c)) :=
  hD (fun w1 hb => ⟨bx_cell hb 0 _ rfl, bx_cell hb 1 _ rfl, bx_cell hb 2 _ rfl, bx_cell hb 3 _ rfl, bx_cell hb 4 _ rfl, bx_cell hb 5 _ rfl, bx_cell hb 6 _ rfl, bx_cell hb 7 _ rfl, bx_cell hb 8 _ rfl, bx_cell hb 9 _ rfl, bx_cell hb 10 _ rfl, bx_cell hb 11 _ rfl, bx_cell hb 12 _ rfl, bx_cell hb 13 _ rfl, bx_cell hb 14 _ rfl, bx_cell hb 15 _ rfl, bx_cell hb 16 _ rfl, bx_cell hb 17 _ rfl, bx_cell hb 18 _ rfl, bx_cell hb 19 _ rfl, bx_cell hb 20 _ rfl⟩)
 have HB0 := hD (bx_new w (msC m) 50)
 clear hi hz0 hz1 hz2 hok hch hls hle hs
 go_enter Tryz.func32, Tryz.ntmps32
 go_wp2_with fail
 go_loopw [3, 5] (fun o i wr => ∃ k : Nat, i = .int .i64 k ∧ k ≤ m.statuses.l.length ∧ wr.ownsRow (w.heap.size + 1) 9 1 o k (strC ((m.statuses.l.take k).map encSt)) ∧ Bx w (msC m) 50 wr) (fun _ i _ => m.statuses.l.length - (intOf i).toNat)
 case atStart => exact ⟨0, rfl, by omega, by simpa [strC] using World.ownsRow_nil _ _ _ _, HB0.out⟩
 case round =>
  obtain ⟨k, rfl, hk, hown, hb⟩ := hrel
  have HO := hD hown
  have HB := hD hb
  have HLw := hD (bx_low hb)
  have hge := bx_size hb
  obtain ⟨b0, b1, b2, b3, b4, b5, b6, b7, b8, b9, b10, b11, b12, b13, b14, b15, b16, b17, b18, b19, b20⟩ := HC5.out wr hb
  clear hown hb
  by_cases hlt : k < m.statuses.l.length
  · have i0' : (0 : Int) ≤ (k : Int) := by omega
    have i1 : (k : Int) < (m.statuses.l.length : Int) := by omega
    obtain ⟨g, o, hxa, hg, hcc⟩ := HRSt.out.at stC_len'' (by omega) hlt
    obtain ⟨x, hx⟩ : ∃ x, x = m.statuses.l[k] := ⟨_, rfl⟩
    have HX := hD hx.symm
    have HM := hD (hx ▸ List.getElem_mem hlt : x ∈ m.statuses.l)
    clear hx
    rw [hxa] at b13
    have HXA := hD hxa
    clear hxa
    have a0 : wr.cell? ⟨g, o + k * 12, none⟩ = some (.int .i64 x.server) := by simpa using hcc wr HLw.out 0 _ (by rw [HX.out]; rfl)
    have a1 : wr.cell? ⟨g, o + k * 12 + 1, none⟩ = some (.int .i64 x.view) := hcc wr HLw.out 1 _ (by rw [HX.out]; rfl)
    have a2 : wr.cell? ⟨g, o + k * 12 + 2, none⟩ = some (.int .i64 x.length) := hcc wr HLw.out 2 _ (by rw [HX.out]; rfl)
    have a3 : wr.cell? ⟨g, o + k * 12 + 3, none⟩ = some (.int .i64 x.lockView) := hcc wr HLw.out 3 _ (by rw [HX.out]; rfl)
    have a4 : wr.cell? ⟨g, o + k * 12 + 4, none⟩ = some (.string ⟨x.lock.toArray⟩) := hcc wr HLw.out 4 _ (by rw [HX.out]; rfl)
    have a5 : wr.cell? ⟨g, o + k * 12 + 5, none⟩ = some (.slice x.cert.a x.cert.l.length x.cert.c) := hcc wr HLw.out 5 _ (by rw [HX.out]; rfl)
    have a6 : wr.cell? ⟨g, o + k * 12 + 6, none⟩ = some (.int .i64 x.signed.server) := hcc wr HLw.out 6 _ (by rw [HX.out]; rfl)
    have a7 : wr.cell? ⟨g, o + k * 12 + 7, none⟩ = some (.int .i64 x.signed.kind) := hcc wr HLw.out 7 _ (by rw [HX.out]; rfl)
    have a8 : wr.cell? ⟨g, o + k * 12 + 8, none⟩ = some (.int .i64 x.signed.view) := hcc wr HLw.out 8 _ (by rw [HX.out]; rfl)
    have a9 : wr.cell? ⟨g, o + k * 12 + 9, none⟩ = some (.int .i64 x.signed.slot) := hcc wr HLw.out 9 _ (by rw [HX.out]; rfl)
    have a10 : wr.cell? ⟨g, o + k * 12 + 10, none⟩ = some (.string ⟨x.signed.digest.toArray⟩) := hcc wr HLw.out 10 _ (by rw [HX.out]; rfl)
    have a11 : wr.cell? ⟨g, o + k * 12 + 11, none⟩ = some (.string ⟨x.signed.sig.toArray⟩) := hcc wr HLw.out 11 _ (by rw [HX.out]; rfl)
    clear hcc
    go_wp2_with fail
    refine ((HESt.out x HM.out _ HLw.out)).mono ?_
    rintro e w1 ⟨rfl, b1⟩
    have hz : wr.heap.size ≤ w1.heap.size := b1.size
    have HO1 : Hid (w1.ownsRow (w.heap.size + 1) 9 1 _ k (strC ((m.statuses.l.take k).map encSt))) := hD (ownsRow_below HO.out b1)
    have B1 := hD b1
    clear b1 a0 a1 a2 a3 a4 a5 a6 a7 a8 a9 a10 a11
    go_wp2_with (at_builtin; refine wpList_append_own _ rfl _ _ 30 rfl (w.heap.size + 1) 9 i0 _ 1 16 Tryz.underlying30 HI.out HZ0.out HZ1.out HZ2.out rfl (by decide) _ _ _ rfl (HO1.out.alloc _) ⟨w1.heap.size, 0, none⟩ 1 1 [.string ⟨(encSt x).toArray⟩] rfl rfl (cell_new _ _ _ _ rfl) (by simp [Value.oneCell']) (by simp [maxLen]; omega) (by omega) (by simp; omega) ?_)
    intro v' w4 hown' hgrow _
    have HO2 : Hid (w4.ownsRow (w.heap.size + 1) 9 1 v' (k + 1) (strC ((m.statuses.l.take (k + 1)).map encSt))) := hD (by
     rw [List.take_succ_eq_append_getElem hlt, List.map_append, List.map_cons, List.map_nil, HX.out, strC_snoc]
     simpa only [List.map_take] using hown')
    have HG2 := hD hgrow
    clear hown' hgrow
    go_wp2_with fail
    go_roundw
    case rel =>
     exact ⟨k + 1, by go_num, by omega, HO2.out, bx_grown (bx_alloc (bx_on HB.out B1.out) _) HG2.out (fun b hb => (HO1.out.lt b hb).1)⟩
    case measure => simp [intOf]; omega
  · obtain rfl : k = m.statuses.l.length := by omega
    have HL2 : Hid (wr.ownsRow (w.heap.size + 1) 9 1 _ m.statuses.l.length (strC (m.statuses.l.map encSt))) := hD (by have := HO.out; rwa [List.take_length] at this)
    obtain ⟨A', c', hv⟩ := ownsRow_form HL2.out
    subst hv
    have HRs := hD (Rd.own HL2.out)
    clear HO HL2
    obtain ⟨w2, hw2⟩ : ∃ w2 : World, w2 = wr := ⟨_, rfl⟩
    subst hw2
    have HBx := HB
    clear HB hk hlt
    go_wp2_with fail
    go_loopw [4, 6] (fun o i wr => ∃ k : Nat, i = .int .i64 k ∧ k ≤ m.entries.l.length ∧ wr.ownsRow w2.heap.size 9 1 o k (strC ((m.entries.l.take k).map encDe)) ∧ Below w2.heap.size w2 wr) (fun _ i _ => m.entries.l.length - (intOf i).toNat)
    case atStart => exact ⟨0, rfl, by omega, by simpa [strC] using World.ownsRow_nil _ _ _ _, Below.refl _ _⟩
    case round =>
     clear b0 b1 b2 b3 b4 b5 b6 b7 b8 b9 b10 b11 b12 b13 b14 b15 b16 b17 b18 b19 b20 HLw
     obtain ⟨k, rfl, hk, hown, hb⟩ := hrel
     have HO := hD hown
     have HB := hD hb
     have hw := bx_on HBx.out hb
     have HLw := hD (bx_low hw)
     have hge2 := hb.size
     obtain ⟨b0, b1, b2, b3, b4, b5, b6, b7, b8, b9, b10, b11, b12, b13, b14, b15, b16, b17, b18, b19, b20⟩ := HC5.out wr hw
     clear hown hb hw
     by_cases hlt : k < m.entries.l.length
     · have i0' : (0 : Int) ≤ (k : Int) := by omega
       have i1 : (k : Int) < (m.entries.l.length : Int) := by omega
       obtain ⟨g, o, hxa, hg, hcc⟩ := HRDe.out.at deC_len'' (by omega) hlt
       obtain ⟨x, hx⟩ : ∃ x, x = m.entries.l[k] := ⟨_, rfl⟩
       have HX := hD hx.symm
       have HM := hD (hx ▸ List.getElem_mem hlt : x ∈ m.entries.l)
       clear hx
       rw [hxa] at b14
       have HXA := hD hxa
       clear hxa
       have a0 : wr.cell? ⟨g, o + k * 3, none⟩ = some (.int .i64 x.view) := by simpa using hcc wr HLw.out 0 _ (by rw [HX.out]; rfl)
       have a1 : wr.cell? ⟨g, o + k * 3 + 1, none⟩ = some (.string ⟨x.value.toArray⟩) := hcc wr HLw.out 1 _ (by rw [HX.out]; rfl)
       have a2 : wr.cell? ⟨g, o + k * 3 + 2, none⟩ = some (.slice x.cert.a x.cert.l.length x.cert.c) := hcc wr HLw.out 2 _ (by rw [HX.out]; rfl)
       clear hcc
       go_wp2_with fail
       refine ((HEDe.out x HM.out _ HLw.out)).mono ?_
       rintro e w1 ⟨rfl, b1⟩
       have hz : wr.heap.size ≤ w1.heap.size := b1.size
       have HO1 : Hid (w1.ownsRow (w2.heap.size) 9 1 _ k (strC ((m.entries.l.take k).map encDe))) := hD (ownsRow_below HO.out b1)
       have B1 := hD b1
       clear b1 a0 a1 a2
       go_wp2_with (at_builtin; refine wpList_append_own _ rfl _ _ 30 rfl (w2.heap.size) 9 i0 _ 1 16 Tryz.underlying30 HI.out HZ0.out HZ1.out HZ2.out rfl (by decide) _ _ _ rfl (HO1.out.alloc _) ⟨w1.heap.size, 0, none⟩ 1 1 [.string ⟨(encDe x).toArray⟩] rfl rfl (cell_new _ _ _ _ rfl) (by simp [Value.oneCell']) (by simp [maxLen]; omega) (by omega) (by simp; omega) ?_)
       intro v' w4 hown' hgrow _
       have HO2 : Hid (w4.ownsRow (w2.heap.size) 9 1 v' (k + 1) (strC ((m.entries.l.take (k + 1)).map encDe))) := hD (by
        rw [List.take_succ_eq_append_getElem hlt, List.map_append, List.map_cons, List.map_nil, HX.out, strC_snoc]
        simpa only [List.map_take] using hown')
       have HG2 := hD hgrow
       clear hown' hgrow
       go_wp2_with fail
       go_roundw
       case rel =>
        exact ⟨k + 1, by go_num, by omega, HO2.out, below_grown (Below.alloc (bon HB.out B1.out) (by omega) _) (by simp; omega) HG2.out (fun b hb => (HO1.out.lt b hb).1)⟩
       case measure => simp [intOf]; omega
     · obtain rfl : k = m.entries.l.length := by omega
       have HL2 : Hid (wr.ownsRow w2.heap.size 9 1 _ m.entries.l.length (strC (m.entries.l.map encDe))) := hD (by have := HO.out; rwa [List.take_length] at this)
       obtain ⟨A2, c2, hv⟩ := ownsRow_form HL2.out
       subst hv
       have HRe := hD (Rd.own HL2.out)
       have HRt := hD (Rd.below HRs.out HB.out)
       clear HO HL2 hk hlt
       have HC6 : Hid (∀ w1, Below wr.heap.size wr w1 → Below wr.heap.size wr w1 ∧ w1.cell? ⟨w.heap.size, 0, none⟩ = some (.int .i64 m.kind) ∧ w1.cell? ⟨w.heap.size, 1, none⟩ = some (.int .i64 m.src) ∧ w1.cell? ⟨w.heap.size, 2, none⟩ = some (.int .i64 m.dst) ∧ w1.cell? ⟨w.heap.size, 3, none⟩ = some (.int .i64 m.view) ∧ w1.cell? ⟨w.heap.size, 4, none⟩ = some (.int .i64 m.slot) ∧ w1.cell? ⟨w.heap.size, 5, none⟩ = some (.string ⟨m.value.toArray⟩) ∧ w1.cell? ⟨w.heap.size, 6, none⟩ = some (.int .i64 m.till) ∧ w1.cell? ⟨w.heap.size, 7, none⟩ = some (.int .i64 m.signed.server) ∧ w1.cell? ⟨w.heap.size, 8, none⟩ = some (.int .i64 m.signed.kind) ∧ w1.cell? ⟨w.heap.size, 9, none⟩ = some (.int .i64 m.signed.view) ∧ w1.cell? ⟨w.heap.size, 10, none⟩ = some (.int .i64 m.signed.slot) ∧ w1.cell? ⟨w.heap.size, 11, none⟩ = some (.string ⟨m.signed.digest.toArray⟩) ∧ w1.cell? ⟨w.heap.size, 12, none⟩ = some (.string ⟨m.signed.sig.toArray⟩)) :=
        hD (fun w1 hb => ⟨hb, (hb.cell (p := ⟨w.heap.size, 0, none⟩) (by show w.heap.size < _; omega)).trans b0, (hb.cell (p := ⟨w.heap.size, 1, none⟩) (by show w.heap.size < _; omega)).trans b1, (hb.cell (p := ⟨w.heap.size, 2, none⟩) (by show w.heap.size < _; omega)).trans b2, (hb.cell (p := ⟨w.heap.size, 3, none⟩) (by show w.heap.size < _; omega)).trans b3, (hb.cell (p := ⟨w.heap.size, 4, none⟩) (by show w.heap.size < _; omega)).trans b4, (hb.cell (p := ⟨w.heap.size, 5, none⟩) (by show w.heap.size < _; omega)).trans b5, (hb.cell (p := ⟨w.heap.size, 6, none⟩) (by show w.heap.size < _; omega)).trans b6, (hb.cell (p := ⟨w.heap.size, 7, none⟩) (by show w.heap.size < _; omega)).trans b7, (hb.cell (p := ⟨w.heap.size, 8, none⟩) (by show w.heap.size < _; omega)).trans b8, (hb.cell (p := ⟨w.heap.size, 9, none⟩) (by show w.heap.size < _; omega)).trans b9, (hb.cell (p := ⟨w.heap.size, 10, none⟩) (by show w.heap.size < _; omega)).trans b10, (hb.cell (p := ⟨w.heap.size, 11, none⟩) (by show w.heap.size < _; omega)).trans b11, (hb.cell (p := ⟨w.heap.size, 12, none⟩) (by show w.heap.size < _; omega)).trans b12⟩)
       have HC7 : Hid (∀ w1, Below wr.heap.size wr w1 → Below wr.heap.size wr w1 ∧ w1.cell? ⟨w.heap.size, 15, none⟩ = some (.int .i64 m.snapshot.slot) ∧ w1.cell? ⟨w.heap.size, 16, none⟩ = some (.string ⟨m.snapshot.root.toArray⟩) ∧ w1.cell? ⟨w.heap.size, 17, none⟩ = some (.slice m.snapshot.chunks.a m.snapshot.chunks.l.length m.snapshot.chunks.c) ∧ w1.cell? ⟨w.heap.size, 18, none⟩ = some (.slice m.snapshot.proof.a m.snapshot.proof.l.length m.snapshot.proof.c) ∧ w1.cell? ⟨w.heap.size, 19, none⟩ = some (.slice m.snapshot.chain.a m.snapshot.chain.l.length m.snapshot.chain.c) ∧ w1.cell? ⟨w.heap.size, 20, none⟩ = some (.slice m.texts.a m.texts.l.length m.texts.c)) :=
        hD (fun w1 hb => ⟨hb, (hb.cell (p := ⟨w.heap.size, 15, none⟩) (by show w.heap.size < _; omega)).trans b15, (hb.cell (p := ⟨w.heap.size, 16, none⟩) (by show w.heap.size < _; omega)).trans b16, (hb.cell (p := ⟨w.heap.size, 17, none⟩) (by show w.heap.size < _; omega)).trans b17, (hb.cell (p := ⟨w.heap.size, 18, none⟩) (by show w.heap.size < _; omega)).trans b18, (hb.cell (p := ⟨w.heap.size, 19, none⟩) (by show w.heap.size < _; omega)).trans b19, (hb.cell (p := ⟨w.heap.size, 20, none⟩) (by show w.heap.size < _; omega)).trans b20⟩)
       have HLB : Hid (∀ w1, Below wr.heap.size wr w1 → Below w.heap.size w w1) := hD (fun w1 hb => HLw.out.trans (hb.mono (by omega)))
       have HX0 : Hid (∀ (w1 : World) (g : Nat) (R : Prop), (Below wr.heap.size wr ((w1.alloc (.cells #[.int .i64 m.kind, .int .i64 m.src, .int .i64 m.dst, .int .i64 m.view, .int .i64 m.slot, .int .i64 m.till] 3)).drew) ∧ R) → w1.heap.size = g → Calls Tryz.prog 59 #[.slice (some ⟨g, 0, none⟩) 6 6] ((w1.alloc (.cells #[.int .i64 m.kind, .int .i64 m.src, .int .i64 m.dst, .int .i64 m.view, .int .i64 m.slot, .int .i64 m.till] 3)).drew) (GivesB wr (putInts [m.kind, m.src, m.dst, m.view, m.slot, m.till]))) :=
        hD (fun w1 g _ hb hg => givesB_int [m.kind, m.src, m.dst, m.view, m.slot, m.till] (fun A c W hr => refPutInts_any A c _ W hr (by simp) (by simpa [List.forall_mem_cons] using hI)) hb.1 hg)
       have HX1 : Hid (∀ (t : List UInt8) (w1 : World) (R : Prop), t.length ≤ 70368744177664 → (Below wr.heap.size wr w1 ∧ R) → Calls Tryz.prog 60 #[.string ⟨t.toArray⟩] w1 (GivesB wr (putStr t))) :=
        hD (fun t w1 _ ht hb => givesB_of hb.1 (refPutString_any t ht w1))
       have HX2 : Hid (∀ (w1 : World) (R : Prop), (Below wr.heap.size wr w1 ∧ R) → Calls Tryz.prog 61 #[.agg #[.int .i64 m.signed.server, .int .i64 m.signed.kind, .int .i64 m.signed.view, .int .i64 m.signed.slot, .string ⟨m.signed.digest.toArray⟩, .string ⟨m.signed.sig.toArray⟩]] w1 (GivesB wr (encSg m.signed))) :=
        hD (fun w1 _ hb => givesB_of hb.1 (HG.out w1))
       have HX3 : Hid (∀ (w1 : World) (R : Prop), (Below wr.heap.size wr w1 ∧ R) → Calls Tryz.prog 62 #[.slice A' m.statuses.l.length c'] w1 (GivesB wr (putList (m.statuses.l.map encSt)))) :=
        hD (fun w1 _ hb => givesB_of hb.1 (HS.out w1 _ _ (HRt.out.below hb.1)))
       have HX4 : Hid (∀ (w1 : World) (R : Prop), (Below wr.heap.size wr w1 ∧ R) → Calls Tryz.prog 62 #[.slice A2 m.entries.l.length c2] w1 (GivesB wr (putList (m.entries.l.map encDe)))) :=
        hD (fun w1 _ hb => givesB_of hb.1 (HD.out w1 _ _ (HRe.out.below hb.1)))
       have HX5 : Hid (∀ (w1 : World) (R : Prop), (Below wr.heap.size wr w1 ∧ R) → Calls Tryz.prog 62 #[.slice m.texts.a m.texts.l.length m.texts.c] w1 (GivesB wr (putList m.texts.l))) :=
        hD (fun w1 _ hb => givesB_of hb.1 (HT.out w1 (HLB.out _ hb.1)))
       have HX6 : Hid (∀ (w1 : World) (R : Prop), (Below wr.heap.size wr w1 ∧ R) → Calls Tryz.prog 63 #[.agg #[.int .i64 m.snapshot.slot, .string ⟨m.snapshot.root.toArray⟩, .slice m.snapshot.chunks.a m.snapshot.chunks.l.length m.snapshot.chunks.c, .slice m.snapshot.proof.a m.snapshot.proof.l.length m.snapshot.proof.c, .slice m.snapshot.chain.a m.snapshot.chain.l.length m.snapshot.chain.c]] w1 (GivesB wr (encSn m.snapshot))) :=
        hD (fun w1 _ hb => givesB_of hb.1 (HN.out w1 (HLB.out _ hb.1)))
       clear HESt HEDe HRSt HRDe HRs
       go_wp2_with fail
       go_region_held3 (fun w1 => Below wr.heap.size wr w1 ∧ w1.cell? ⟨w.heap.size, 0, none⟩ = some (.int .i64 m.kind) ∧ w1.cell? ⟨w.heap.size, 1, none⟩ = some (.int .i64 m.src) ∧ w1.cell? ⟨w.heap.size, 2, none⟩ = some (.int .i64 m.dst) ∧ w1.cell? ⟨w.heap.size, 3, none⟩ = some (.int .i64 m.view) ∧ w1.cell? ⟨w.heap.size, 4, none⟩ = some (.int .i64 m.slot) ∧ w1.cell? ⟨w.heap.size, 5, none⟩ = some (.string ⟨m.value.toArray⟩) ∧ w1.cell? ⟨w.heap.size, 6, none⟩ = some (.int .i64 m.till) ∧ w1.cell? ⟨w.heap.size, 7, none⟩ = some (.int .i64 m.signed.server) ∧ w1.cell? ⟨w.heap.size, 8, none⟩ = some (.int .i64 m.signed.kind) ∧ w1.cell? ⟨w.heap.size, 9, none⟩ = some (.int .i64 m.signed.view) ∧ w1.cell? ⟨w.heap.size, 10, none⟩ = some (.int .i64 m.signed.slot) ∧ w1.cell? ⟨w.heap.size, 11, none⟩ = some (.string ⟨m.signed.digest.toArray⟩) ∧ w1.cell? ⟨w.heap.size, 12, none⟩ = some (.string ⟨m.signed.sig.toArray⟩))
        (first | exact HC6.out _ (Below.refl _ _).drew | exact HC6.out _ (Below.alloc (‹Below _ _ _ ∧ _›).1 (Below.size (‹Below _ _ _ ∧ _›).1) _) | exact HC6.out _ ‹Below wr.heap.size wr _›)
        (first
         | (go_at_call 59; refine (HX0.out _ _ _ (by assumption) (by simp)).mono ?_; rintro e w5 ⟨rfl, d5⟩)
         | (go_at_call 60; refine (HX1.out _ _ _ (by omega) (by assumption)).mono ?_; rintro e w6 ⟨rfl, d6⟩)
         | (go_at_call 61; refine (HX2.out _ _ (by assumption)).mono ?_; rintro e w7 ⟨rfl, d7⟩))
       all_goals
        clear HC6 HX0 HX2
        go_wp2_with fail
        go_region_held3 (fun w1 => Below wr.heap.size wr w1 ∧ w1.cell? ⟨w.heap.size, 15, none⟩ = some (.int .i64 m.snapshot.slot) ∧ w1.cell? ⟨w.heap.size, 16, none⟩ = some (.string ⟨m.snapshot.root.toArray⟩) ∧ w1.cell? ⟨w.heap.size, 17, none⟩ = some (.slice m.snapshot.chunks.a m.snapshot.chunks.l.length m.snapshot.chunks.c) ∧ w1.cell? ⟨w.heap.size, 18, none⟩ = some (.slice m.snapshot.proof.a m.snapshot.proof.l.length m.snapshot.proof.c) ∧ w1.cell? ⟨w.heap.size, 19, none⟩ = some (.slice m.snapshot.chain.a m.snapshot.chain.l.length m.snapshot.chain.c) ∧ w1.cell? ⟨w.heap.size, 20, none⟩ = some (.slice m.texts.a m.texts.l.length m.texts.c))
         (first | exact HC7.out _ (Below.drew ‹Below wr.heap.size wr w6›) | exact HC7.out _ ‹Below wr.heap.size wr _›)
         (first
          | (go_at_call_of 62 (Value.slice A' m.statuses.l.length c'); refine (HX3.out _ _ (by assumption)).mono ?_; rintro e x1 ⟨rfl, f1⟩)
          | (go_at_call_of 62 (Value.slice A2 m.entries.l.length c2); refine (HX4.out _ _ (by assumption)).mono ?_; rintro e x2 ⟨rfl, f2⟩)
          | (go_at_call 62; refine (HX5.out _ _ (by assumption)).mono ?_; rintro e x3 ⟨rfl, f3⟩)
          | (go_at_call 63; refine (HX6.out _ _ (by assumption)).mono ?_; rintro e x4 ⟨rfl, f4⟩)
          | (go_at_call 60; refine (HX1.out _ _ _ (by omega) (by assumption)).mono ?_; rintro e x5 ⟨rfl, f5⟩))
        all_goals
         go_wp2_with fail
         go_ret
         exact ret_st (by rfl) (HLB.out _ ‹_›)
end Go.Proofs.YtikpcebhcnjkhaaGreatDoor
