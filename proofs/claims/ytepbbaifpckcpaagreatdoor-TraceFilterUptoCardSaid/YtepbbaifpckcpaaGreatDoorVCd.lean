/- The contract of message.list at api.Signed. -/
import Derived.Test.YtepbbaifpckcpaaGreatDoorVPl
import Derived.Test.YtepbbaifpckcpaaGreatDoorVWa
namespace Go.Proofs.YtepbbaifpckcpaaGreatDoor
open Go.RowKit
theorem sgC_len (x : Sg) : (sgC x).length = 6 := rfl
set_option maxRecDepth 100000 in
set_option maxHeartbeats 2000000 in
theorem listSg_any (A : Option Addr) (c : Nat) (l : List Sg) (w : World) (hr : Rd w 6 A l.length (l.flatMap sgC)) (hok : ∀ x ∈ l, x.ok) (hs : sum Sg.sz l ≤ 16777216) :
    Calls Tryz.prog 221 #[.slice A l.length c, .func (.func 162) #[] #[]] w (RetStr (putList (l.map encSg)) w) := by
 obtain ⟨i0, hi, hz0, hz1, hz2⟩ := info_parts infoS
 have HI := hD hi
 have HZ0 := hD hz0
 have HZ1 := hD hz1
 have HZ2 := hD hz2
 have HR := hD hr
 have hlen := cert_len l hok hs
 have HE : Hid (∀ x ∈ l, ∀ w1, Below w.heap.size w w1 → Calls Tryz.prog 162 #[.agg #[.int .i64 x.server, .int .i64 x.kind, .int .i64 x.view, .int .i64 x.slot, .string ⟨x.digest.toArray⟩, .string ⟨x.sig.toArray⟩]] w1 (RetStr (encSg x) w1)) :=
  hD (fun x hx w1 _ => sealEncode_any x (hok x hx) (by have := sum_get Sg.sz l x hx; omega) w1)
 have HP : Hid (∀ w' A c, Rd w' 1 A l.length (strC (l.map encSg)) → Calls Tryz.prog 168 #[.slice A l.length c] w' (RetStr (putList (l.map encSg)) w')) := hD (fun w' A c h => by
  have h2 := putList_any A c (l.map encSg) w' (by simpa using h) (by simp; omega) (by omega)
  simpa using h2)
 have hn : l.length ≤ 16777216 := by omega
 clear hi hz0 hz1 hz2 hr hok hs hlen
 go_enter Tryz.func221, Tryz.ntmps221
 go_wp2_with fail
 go_loopw [5, 10] (fun o i wr => ∃ k : Nat, i = .int .i64 k ∧ k ≤ l.length ∧ wr.ownsRow w.heap.size 9 1 o k (strC ((l.take k).map encSg)) ∧ Below w.heap.size w wr ∧ w.heap.size ≤ wr.heap.size) (fun _ i _ => l.length - (intOf i).toNat)
 case atStart => exact ⟨0, rfl, by omega, by simpa [strC] using World.ownsRow_nil _ _ _ _, Below.refl _ _, Nat.le_refl _⟩
 case round =>
  obtain ⟨k, rfl, hk, hown, hb, hge⟩ := hrel
  have HO := hD hown
  have HB := hD hb
  clear hown hb
  by_cases hlt : k < l.length
  · have i0' : (0 : Int) ≤ (k : Int) := by omega
    have i1 : (k : Int) < (l.length : Int) := by omega
    obtain ⟨g, o, rfl, hg, hcc⟩ := HR.out.at sgC_len (by omega) hlt
    obtain ⟨x, hx⟩ : ∃ x, x = l[k] := ⟨_, rfl⟩
    have HX := hD hx.symm
    have HM := hD (hx ▸ List.getElem_mem hlt : x ∈ l)
    clear hx
    have a0 : wr.cell? ⟨g, o + k * 6, none⟩ = some (.int .i64 x.server) := by simpa using hcc wr HB.out 0 _ (by rw [HX.out]; rfl)
    have a1 : wr.cell? ⟨g, o + k * 6 + 1, none⟩ = some (.int .i64 x.kind) := hcc wr HB.out 1 _ (by rw [HX.out]; rfl)
    have a2 : wr.cell? ⟨g, o + k * 6 + 2, none⟩ = some (.int .i64 x.view) := hcc wr HB.out 2 _ (by rw [HX.out]; rfl)
    have a3 : wr.cell? ⟨g, o + k * 6 + 3, none⟩ = some (.int .i64 x.slot) := hcc wr HB.out 3 _ (by rw [HX.out]; rfl)
    have a4 : wr.cell? ⟨g, o + k * 6 + 4, none⟩ = some (.string ⟨x.digest.toArray⟩) := hcc wr HB.out 4 _ (by rw [HX.out]; rfl)
    have a5 : wr.cell? ⟨g, o + k * 6 + 5, none⟩ = some (.string ⟨x.sig.toArray⟩) := hcc wr HB.out 5 _ (by rw [HX.out]; rfl)
    clear hcc
    go_wp2_with fail
    refine (HE.out x HM.out _ (HB.out.alloc hge _)).mono ?_
    rintro e w1 ⟨rfl, b1⟩
    have hz : wr.heap.size + 1 ≤ w1.heap.size := by have := b1.size; simpa using this
    have B1 : Hid (Below w.heap.size w w1) := hD ((HB.out.alloc hge _).trans (b1.mono (by simp; omega)))
    have HO1 : Hid (w1.ownsRow w.heap.size 9 1 _ k (strC ((l.take k).map encSg))) := hD (ownsRow_below (HO.out.alloc _) b1)
    clear b1 a0 a1 a2 a3 a4 a5
    go_wp2_with (at_builtin; refine wpList_append_own _ rfl _ _ 32 rfl w.heap.size 9 i0 _ 1 16 Tryz.underlying32 HI.out HZ0.out HZ1.out HZ2.out rfl (by decide) _ _ _ rfl (HO1.out.alloc _) ⟨w1.heap.size, 0, none⟩ 1 1 [.string ⟨(encSg x).toArray⟩] rfl rfl (cell_new _ _ _ _ rfl) (by simp [Value.oneCell']) (by simp [maxLen]; omega) (by omega) (by simp; omega) ?_)
    intro v' w2 hown' hgrow _
    have HO2 : Hid (w2.ownsRow w.heap.size 9 1 v' (k + 1) (strC ((l.take (k + 1)).map encSg))) := hD (by
     rw [List.take_succ_eq_append_getElem hlt, List.map_append, List.map_cons, List.map_nil, HX.out, strC_snoc]
     simpa only [List.map_take] using hown')
    have HG2 := hD hgrow
    clear hown' hgrow
    go_wp2_with fail
    go_roundw
    case rel =>
     refine ⟨k + 1, by go_num, by omega, HO2.out, below_grown (B1.out.alloc (by omega) _) (by simp; omega) HG2.out (fun g hg => (HO1.out.lt g hg).1), ?_⟩
     have := HG2.out.size; simp at this; omega
    case measure => simp [intOf]; omega
  · obtain rfl : k = l.length := by omega
    have HL : Hid (wr.ownsRow w.heap.size 9 1 _ l.length (strC (l.map encSg))) := hD (by have := HO.out; rwa [List.take_length] at this)
    obtain ⟨A', c', hv⟩ := ownsRow_form HL.out
    subst hv
    have HR2 := hD (Rd.own HL.out)
    go_wp2_with fail
    refine (HP.out _ _ _ HR2.out).mono ?_
    rintro e w1 ⟨rfl, b1⟩
    have B1 := hD b1
    clear b1
    go_wp2_with fail
    go_ret
    exact ret_st rfl (HB.out.trans (B1.out.mono hge))
open Go.RowKit
set_option maxRecDepth 100000 in
set_option maxHeartbeats 4000000 in
theorem codeEntry_any (d : De) (w : World) (hok : d.ok w) (hs : d.sz ≤ 16777216) :
    Calls Tryz.prog 166 #[.agg #[.int .i64 d.view, .string ⟨d.value.toArray⟩, .slice d.cert.a d.cert.l.length d.cert.c]] w (RetStr (encDe d) w) := by
 have hI := hok.1
 have hz := hs
 unfold De.sz at hz
 have HK : Hid (∀ w1, Below w.heap.size w w1 → Calls Tryz.prog 221 #[.slice d.cert.a d.cert.l.length d.cert.c, .func (.func 162) #[] #[]] w1 (RetStr (putList (d.cert.l.map encSg)) w1)) := hD (fun w1 hb => listSg_any _ _ _ w1 (Sl.rd_below hok.2.1 hb) hok.2.2 (by omega))
 have hl1 := putInts_len [d.view] (by simpa [List.forall_mem_cons] using hI) (by simp)
 simp only [List.length_cons, List.length_nil] at hl1
 have hl2 := putStr_len d.value (by omega)
 have hl3 := (cert_len d.cert.l hok.2.2 (by omega)).1
 have HX0 : Hid (∀ (w1 : World) (g : Nat) (R : Prop), (Bx w (deC d) 100 ((w1.alloc (.cells #[.int .i64 d.view] 3)).drew) ∧ R) → w1.heap.size = g → Calls Tryz.prog 160 #[.slice (some ⟨g, 0, none⟩) 1 1] ((w1.alloc (.cells #[.int .i64 d.view] 3)).drew) (Gives w (deC d) 100 (putInts [d.view]))) :=
  hD (fun w1 g _ hb hg => gives_ints [d.view] (by simp) (by simpa [List.forall_mem_cons] using hI) (fun A c W hr => putInts_any A c _ W hr (by simp) (by simpa [List.forall_mem_cons] using hI)) hb.1 hg)
 have HX1 : Hid (∀ (t : List UInt8) (w1 : World) (R : Prop), t.length ≤ 70368744177664 → (Bx w (deC d) 100 w1 ∧ R) → Calls Tryz.prog 161 #[.string ⟨t.toArray⟩] w1 (Gives w (deC d) 100 (putStr t))) :=
  hD (fun t w1 _ ht hb => gives_of hb.1 (putString_any t ht w1))
 have HX2 : Hid (∀ (w1 : World) (R : Prop), (Bx w (deC d) 100 w1 ∧ R) → Calls Tryz.prog 221 #[.slice d.cert.a d.cert.l.length d.cert.c, .func (.func 162) #[] #[]] w1 (Gives w (deC d) 100 (putList (d.cert.l.map encSg)))) :=
  hD (fun w1 _ hb => gives_of hb.1 (HK.out w1 (bx_low hb.1)))
 have HC : Hid (∀ w1, Bx w (deC d) 100 w1 → Bx w (deC d) 100 w1 ∧ w1.cell? ⟨w.heap.size, 0, none⟩ = some (.int .i64 d.view) ∧ w1.cell? ⟨w.heap.size, 1, none⟩ = some (.string ⟨d.value.toArray⟩) ∧ w1.cell? ⟨w.heap.size, 2, none⟩ = some (.slice d.cert.a d.cert.l.length d.cert.c)) :=
  hD (fun w1 hb => ⟨hb, bx_cell hb 0 _ rfl, bx_cell hb 1 _ rfl, bx_cell hb 2 _ rfl⟩)
 have H0 := hD (bx_new w (deC d) 100)
 have hq0 : ¬ (9223372036854775807 < (putInts [d.view]).length + (putStr d.value).length) := by omega
 have hq1 : ¬ (9223372036854775807 < (putInts [d.view]).length + (putStr d.value).length + (putList (d.cert.l.map encSg)).length) := by omega
 clear hok hs
 go_enter Tryz.func166, Tryz.ntmps166
 go_wp2_with fail
 go_region_held3 (fun w1 => Bx w (deC d) 100 w1 ∧ w1.cell? ⟨w.heap.size, 0, none⟩ = some (.int .i64 d.view) ∧ w1.cell? ⟨w.heap.size, 1, none⟩ = some (.string ⟨d.value.toArray⟩) ∧ w1.cell? ⟨w.heap.size, 2, none⟩ = some (.slice d.cert.a d.cert.l.length d.cert.c))
  (first | exact HC.out _ (bx_drew H0.out) | exact HC.out _ (bx_alloc (‹Bx _ _ _ _ ∧ _›).1 _) | exact HC.out _ ‹Bx _ _ _ _›)
  (first
   | (go_at_call 160; refine (HX0.out _ _ _ (by assumption) (by simp)).mono ?_; rintro e w2 ⟨rfl, b2⟩)
   | (go_at_call 161; refine (HX1.out _ _ _ (by omega) (by assumption)).mono ?_; rintro e w3 ⟨rfl, b3⟩)
   | (go_at_call 221; refine (HX2.out _ _ (by assumption)).mono ?_; rintro e w4 ⟨rfl, b4⟩))
 all_goals
  go_wp2_with fail
  go_ret
  exact ret_st (by rfl) (bx_low ‹_›)
set_option maxRecDepth 100000 in
set_option maxHeartbeats 4000000 in
theorem codeHo_any (h : Ho) (w : World) (hok : h.ok w) (hs : h.sz ≤ 16777216) :
    Calls Tryz.prog 223 #[.agg #[.int .i64 h.slot, .int .i64 h.entry.view, .string ⟨h.entry.value.toArray⟩, .slice h.entry.cert.a h.entry.cert.l.length h.entry.cert.c]] w (RetStr (encHo h) w) := by
 have hI := hok.1
 have hz := hs
 unfold Ho.sz at hz
 have HK : Hid (∀ w1, Below w.heap.size w w1 → Calls Tryz.prog 166 #[.agg #[.int .i64 h.entry.view, .string ⟨h.entry.value.toArray⟩, .slice h.entry.cert.a h.entry.cert.l.length h.entry.cert.c]] w1 (RetStr (encDe h.entry) w1)) := hD (fun w1 hb => codeEntry_any h.entry w1 (De.below hok.2 hb) (by omega))
 have hl1 := putInts_len [h.slot] (by simpa [List.forall_mem_cons] using hI) (by simp)
 simp only [List.length_cons, List.length_nil] at hl1
 have hl2 := encDe_len h.entry w hok.2 (by omega)
 have HX0 : Hid (∀ (w1 : World) (g : Nat) (R : Prop), (Bx w (hoC h) 147 ((w1.alloc (.cells #[.int .i64 h.slot] 3)).drew) ∧ R) → w1.heap.size = g → Calls Tryz.prog 160 #[.slice (some ⟨g, 0, none⟩) 1 1] ((w1.alloc (.cells #[.int .i64 h.slot] 3)).drew) (Gives w (hoC h) 147 (putInts [h.slot]))) :=
  hD (fun w1 g _ hb hg => gives_ints [h.slot] (by simp) (by simpa [List.forall_mem_cons] using hI) (fun A c W hr => putInts_any A c _ W hr (by simp) (by simpa [List.forall_mem_cons] using hI)) hb.1 hg)
 have HX1 : Hid (∀ (w1 : World) (R : Prop), (Bx w (hoC h) 147 w1 ∧ R) → Calls Tryz.prog 166 #[.agg #[.int .i64 h.entry.view, .string ⟨h.entry.value.toArray⟩, .slice h.entry.cert.a h.entry.cert.l.length h.entry.cert.c]] w1 (Gives w (hoC h) 147 (encDe h.entry))) :=
  hD (fun w1 _ hb => gives_of hb.1 (HK.out w1 (bx_low hb.1)))
 have HC : Hid (∀ w1, Bx w (hoC h) 147 w1 → Bx w (hoC h) 147 w1 ∧ w1.cell? ⟨w.heap.size, 0, none⟩ = some (.int .i64 h.slot) ∧ w1.cell? ⟨w.heap.size, 1, none⟩ = some (.int .i64 h.entry.view) ∧ w1.cell? ⟨w.heap.size, 2, none⟩ = some (.string ⟨h.entry.value.toArray⟩) ∧ w1.cell? ⟨w.heap.size, 3, none⟩ = some (.slice h.entry.cert.a h.entry.cert.l.length h.entry.cert.c)) :=
  hD (fun w1 hb => ⟨hb, bx_cell hb 0 _ rfl, bx_cell hb 1 _ rfl, bx_cell hb 2 _ rfl, bx_cell hb 3 _ rfl⟩)
 have H0 := hD (bx_new w (hoC h) 147)
 have hq0 : ¬ (9223372036854775807 < (putInts [h.slot]).length + (encDe h.entry).length) := by omega
 clear hok hs
 go_enter Tryz.func223, Tryz.ntmps223
 go_wp2_with fail
 go_region_held3 (fun w1 => Bx w (hoC h) 147 w1 ∧ w1.cell? ⟨w.heap.size, 0, none⟩ = some (.int .i64 h.slot) ∧ w1.cell? ⟨w.heap.size, 1, none⟩ = some (.int .i64 h.entry.view) ∧ w1.cell? ⟨w.heap.size, 2, none⟩ = some (.string ⟨h.entry.value.toArray⟩) ∧ w1.cell? ⟨w.heap.size, 3, none⟩ = some (.slice h.entry.cert.a h.entry.cert.l.length h.entry.cert.c))
  (first | exact HC.out _ (bx_drew H0.out) | exact HC.out _ (bx_alloc (‹Bx _ _ _ _ ∧ _›).1 _) | exact HC.out _ ‹Bx _ _ _ _›)
  (first
   | (go_at_call 160; refine (HX0.out _ _ _ (by assumption) (by simp)).mono ?_; rintro e w2 ⟨rfl, b2⟩)
   | (go_at_call 166; refine (HX1.out _ _ (by assumption)).mono ?_; rintro e w3 ⟨rfl, b3⟩))
 all_goals
  go_wp2_with fail
  go_ret
  exact ret_st (by rfl) (bx_low ‹_›)
open Go.RowKit
set_option maxRecDepth 100000 in
set_option maxHeartbeats 4000000 in
theorem codeStatus_any (s : St) (w : World) (hok : s.ok w) (hs : s.sz ≤ 16777216) :
    Calls Tryz.prog 164 #[.agg #[.int .i64 s.server, .int .i64 s.view, .int .i64 s.length, .int .i64 s.lockView, .string ⟨s.lock.toArray⟩, .slice s.cert.a s.cert.l.length s.cert.c, .int .i64 s.signed.server, .int .i64 s.signed.kind, .int .i64 s.signed.view, .int .i64 s.signed.slot, .string ⟨s.signed.digest.toArray⟩, .string ⟨s.signed.sig.toArray⟩]] w (RetStr (encSt s) w) := by
 have hI := hok.1
 have hz := hs
 unfold St.sz at hz
 have HG : Hid (∀ w1, Calls Tryz.prog 162 #[.agg #[.int .i64 s.signed.server, .int .i64 s.signed.kind, .int .i64 s.signed.view, .int .i64 s.signed.slot, .string ⟨s.signed.digest.toArray⟩, .string ⟨s.signed.sig.toArray⟩]] w1 (RetStr (encSg s.signed) w1)) := hD (fun w1 => sealEncode_any s.signed hok.2.2.2 (by omega) w1)
 have HK : Hid (∀ w1, Below w.heap.size w w1 → Calls Tryz.prog 221 #[.slice s.cert.a s.cert.l.length s.cert.c, .func (.func 162) #[] #[]] w1 (RetStr (putList (s.cert.l.map encSg)) w1)) := hD (fun w1 hb => listSg_any _ _ _ w1 (Sl.rd_below hok.2.1 hb) hok.2.2.1 (by omega))
 have hl1 := putInts_len [s.server, s.view, s.length, s.lockView] (by simpa [List.forall_mem_cons] using hI) (by simp)
 simp only [List.length_cons, List.length_nil] at hl1
 have hl2 := putStr_len s.lock (by omega)
 have hl3 := (cert_len s.cert.l hok.2.2.1 (by omega)).1
 have hl4 := encSg_len s.signed hok.2.2.2 (by omega)
 have hl5 := putStr_len (encSg s.signed) (by omega)
 have hg7 := Sg.sz_ge s.signed
 have HX0 : Hid (∀ (w1 : World) (g : Nat) (R : Prop), (Bx w (stC s) 97 ((w1.alloc (.cells #[.int .i64 s.server, .int .i64 s.view, .int .i64 s.length, .int .i64 s.lockView] 3)).drew) ∧ R) → w1.heap.size = g → Calls Tryz.prog 160 #[.slice (some ⟨g, 0, none⟩) 4 4] ((w1.alloc (.cells #[.int .i64 s.server, .int .i64 s.view, .int .i64 s.length, .int .i64 s.lockView] 3)).drew) (Gives w (stC s) 97 (putInts [s.server, s.view, s.length, s.lockView]))) :=
  hD (fun w1 g _ hb hg => gives_ints [s.server, s.view, s.length, s.lockView] (by simp) (by simpa [List.forall_mem_cons] using hI) (fun A c W hr => putInts_any A c _ W hr (by simp) (by simpa [List.forall_mem_cons] using hI)) hb.1 hg)
 have HX1 : Hid (∀ (t : List UInt8) (w1 : World) (R : Prop), t.length ≤ 70368744177664 → (Bx w (stC s) 97 w1 ∧ R) → Calls Tryz.prog 161 #[.string ⟨t.toArray⟩] w1 (Gives w (stC s) 97 (putStr t))) :=
  hD (fun t w1 _ ht hb => gives_of hb.1 (putString_any t ht w1))
 have HX2 : Hid (∀ (w1 : World) (R : Prop), (Bx w (stC s) 97 w1 ∧ R) → Calls Tryz.prog 221 #[.slice s.cert.a s.cert.l.length s.cert.c, .func (.func 162) #[] #[]] w1 (Gives w (stC s) 97 (putList (s.cert.l.map encSg)))) :=
  hD (fun w1 _ hb => gives_of hb.1 (HK.out w1 (bx_low hb.1)))
 have HX3 : Hid (∀ (w1 : World) (R : Prop), (Bx w (stC s) 97 w1 ∧ R) → Calls Tryz.prog 162 #[.agg #[.int .i64 s.signed.server, .int .i64 s.signed.kind, .int .i64 s.signed.view, .int .i64 s.signed.slot, .string ⟨s.signed.digest.toArray⟩, .string ⟨s.signed.sig.toArray⟩]] w1 (Gives w (stC s) 97 (encSg s.signed))) :=
  hD (fun w1 _ hb => gives_of hb.1 (HG.out w1))
 have HC : Hid (∀ w1, Bx w (stC s) 97 w1 → Bx w (stC s) 97 w1 ∧ w1.cell? ⟨w.heap.size, 0, none⟩ = some (.int .i64 s.server) ∧ w1.cell? ⟨w.heap.size, 1, none⟩ = some (.int .i64 s.view) ∧ w1.cell? ⟨w.heap.size, 2, none⟩ = some (.int .i64 s.length) ∧ w1.cell? ⟨w.heap.size, 3, none⟩ = some (.int .i64 s.lockView) ∧ w1.cell? ⟨w.heap.size, 4, none⟩ = some (.string ⟨s.lock.toArray⟩) ∧ w1.cell? ⟨w.heap.size, 5, none⟩ = some (.slice s.cert.a s.cert.l.length s.cert.c) ∧ w1.cell? ⟨w.heap.size, 6, none⟩ = some (.int .i64 s.signed.server) ∧ w1.cell? ⟨w.heap.size, 7, none⟩ = some (.int .i64 s.signed.kind) ∧ w1.cell? ⟨w.heap.size, 8, none⟩ = some (.int .i64 s.signed.view) ∧ w1.cell? ⟨w.heap.size, 9, none⟩ = some (.int .i64 s.signed.slot) ∧ w1.cell? ⟨w.heap.size, 10, none⟩ = some (.string ⟨s.signed.digest.toArray⟩) ∧ w1.cell? ⟨w.heap.size, 11, none⟩ = some (.string ⟨s.signed.sig.toArray⟩)) :=
  hD (fun w1 hb => ⟨hb, bx_cell hb 0 _ rfl, bx_cell hb 1 _ rfl, bx_cell hb 2 _ rfl, bx_cell hb 3 _ rfl, bx_cell hb 4 _ rfl, bx_cell hb 5 _ rfl, bx_cell hb 6 _ rfl, bx_cell hb 7 _ rfl, bx_cell hb 8 _ rfl, bx_cell hb 9 _ rfl, bx_cell hb 10 _ rfl, bx_cell hb 11 _ rfl⟩)
 have H0 := hD (bx_new w (stC s) 97)
 have hq0 : ¬ (9223372036854775807 < (putInts [s.server, s.view, s.length, s.lockView]).length + (putStr s.lock).length) := by omega
 have hq1 : ¬ (9223372036854775807 < (putInts [s.server, s.view, s.length, s.lockView]).length + (putStr s.lock).length + (putList (s.cert.l.map encSg)).length) := by omega
 have hq2 : ¬ (9223372036854775807 < (putInts [s.server, s.view, s.length, s.lockView]).length + (putStr s.lock).length + (putList (s.cert.l.map encSg)).length + (putStr (encSg s.signed)).length) := by omega
 clear hok hs
 go_enter Tryz.func164, Tryz.ntmps164
 go_wp2_with fail
 go_region_held3 (fun w1 => Bx w (stC s) 97 w1 ∧ w1.cell? ⟨w.heap.size, 0, none⟩ = some (.int .i64 s.server) ∧ w1.cell? ⟨w.heap.size, 1, none⟩ = some (.int .i64 s.view) ∧ w1.cell? ⟨w.heap.size, 2, none⟩ = some (.int .i64 s.length) ∧ w1.cell? ⟨w.heap.size, 3, none⟩ = some (.int .i64 s.lockView) ∧ w1.cell? ⟨w.heap.size, 4, none⟩ = some (.string ⟨s.lock.toArray⟩) ∧ w1.cell? ⟨w.heap.size, 5, none⟩ = some (.slice s.cert.a s.cert.l.length s.cert.c) ∧ w1.cell? ⟨w.heap.size, 6, none⟩ = some (.int .i64 s.signed.server) ∧ w1.cell? ⟨w.heap.size, 7, none⟩ = some (.int .i64 s.signed.kind) ∧ w1.cell? ⟨w.heap.size, 8, none⟩ = some (.int .i64 s.signed.view) ∧ w1.cell? ⟨w.heap.size, 9, none⟩ = some (.int .i64 s.signed.slot) ∧ w1.cell? ⟨w.heap.size, 10, none⟩ = some (.string ⟨s.signed.digest.toArray⟩) ∧ w1.cell? ⟨w.heap.size, 11, none⟩ = some (.string ⟨s.signed.sig.toArray⟩))
  (first | exact HC.out _ (bx_drew H0.out) | exact HC.out _ (bx_alloc (‹Bx _ _ _ _ ∧ _›).1 _) | exact HC.out _ ‹Bx _ _ _ _›)
  (first
   | (go_at_call 160; refine (HX0.out _ _ _ (by assumption) (by simp)).mono ?_; rintro e w2 ⟨rfl, b2⟩)
   | (go_at_call 161; refine (HX1.out _ _ _ (by omega) (by assumption)).mono ?_; rintro e w3 ⟨rfl, b3⟩)
   | (go_at_call 221; refine (HX2.out _ _ (by assumption)).mono ?_; rintro e w4 ⟨rfl, b4⟩)
   | (go_at_call 162; refine (HX3.out _ _ (by assumption)).mono ?_; rintro e w5 ⟨rfl, b5⟩))
 all_goals
  go_wp2_with fail
  go_ret
  exact ret_st (by rfl) (bx_low ‹_›)
open Go.RowKit
theorem stC_len (x : St) : (stC x).length = 12 := rfl
set_option maxRecDepth 100000 in
set_option maxHeartbeats 2000000 in
theorem listSt_any (A : Option Addr) (c : Nat) (l : List St) (w : World) (hr : Rd w 12 A l.length (l.flatMap stC)) (hok : ∀ x ∈ l, x.ok w) (hs : sum St.sz l ≤ 16777216) :
    Calls Tryz.prog 163 #[.slice A l.length c, .func (.func 164) #[] #[]] w (RetStr (putList (l.map encSt)) w) := by
 obtain ⟨i0, hi, hz0, hz1, hz2⟩ := info_parts infoS
 have HI := hD hi
 have HZ0 := hD hz0
 have HZ1 := hD hz1
 have HZ2 := hD hz2
 have HR := hD hr
 have hlen := list_len encSt St.sz l (fun x hx => encSt_len x w (hok x hx) (by have := sum_get St.sz l x hx; omega)) (fun x => by have := x.sz_ge; omega) hs
 have HE : Hid (∀ x ∈ l, ∀ w1, Below w.heap.size w w1 → Calls Tryz.prog 164 #[.agg #[.int .i64 x.server, .int .i64 x.view, .int .i64 x.length, .int .i64 x.lockView, .string ⟨x.lock.toArray⟩, .slice x.cert.a x.cert.l.length x.cert.c, .int .i64 x.signed.server, .int .i64 x.signed.kind, .int .i64 x.signed.view, .int .i64 x.signed.slot, .string ⟨x.signed.digest.toArray⟩, .string ⟨x.signed.sig.toArray⟩]] w1 (RetStr (encSt x) w1)) :=
  hD (fun x hx w1 hb => codeStatus_any x w1 (St.below (hok x hx) hb) (by have := sum_get St.sz l x hx; omega))
 have HP : Hid (∀ w' A c, Rd w' 1 A l.length (strC (l.map encSt)) → Calls Tryz.prog 168 #[.slice A l.length c] w' (RetStr (putList (l.map encSt)) w')) := hD (fun w' A c h => by
  have h2 := putList_any A c (l.map encSt) w' (by simpa using h) (by simp; omega) (by omega)
  simpa using h2)
 have hn : l.length ≤ 16777216 := by omega
 clear hi hz0 hz1 hz2 hr hok hs hlen
 go_enter Tryz.func163, Tryz.ntmps163
 go_wp2_with fail
 go_loopw [5, 10] (fun o i wr => ∃ k : Nat, i = .int .i64 k ∧ k ≤ l.length ∧ wr.ownsRow w.heap.size 9 1 o k (strC ((l.take k).map encSt)) ∧ Below w.heap.size w wr ∧ w.heap.size ≤ wr.heap.size) (fun _ i _ => l.length - (intOf i).toNat)
 case atStart => exact ⟨0, rfl, by omega, by simpa [strC] using World.ownsRow_nil _ _ _ _, Below.refl _ _, Nat.le_refl _⟩
 case round =>
  obtain ⟨k, rfl, hk, hown, hb, hge⟩ := hrel
  have HO := hD hown
  have HB := hD hb
  clear hown hb
  by_cases hlt : k < l.length
  · have i0' : (0 : Int) ≤ (k : Int) := by omega
    have i1 : (k : Int) < (l.length : Int) := by omega
    obtain ⟨g, o, rfl, hg, hcc⟩ := HR.out.at stC_len (by omega) hlt
    obtain ⟨x, hx⟩ : ∃ x, x = l[k] := ⟨_, rfl⟩
    have HX := hD hx.symm
    have HM := hD (hx ▸ List.getElem_mem hlt : x ∈ l)
    clear hx
    have a0 : wr.cell? ⟨g, o + k * 12, none⟩ = some (.int .i64 x.server) := by simpa using hcc wr HB.out 0 _ (by rw [HX.out]; rfl)
    have a1 : wr.cell? ⟨g, o + k * 12 + 1, none⟩ = some (.int .i64 x.view) := hcc wr HB.out 1 _ (by rw [HX.out]; rfl)
    have a2 : wr.cell? ⟨g, o + k * 12 + 2, none⟩ = some (.int .i64 x.length) := hcc wr HB.out 2 _ (by rw [HX.out]; rfl)
    have a3 : wr.cell? ⟨g, o + k * 12 + 3, none⟩ = some (.int .i64 x.lockView) := hcc wr HB.out 3 _ (by rw [HX.out]; rfl)
    have a4 : wr.cell? ⟨g, o + k * 12 + 4, none⟩ = some (.string ⟨x.lock.toArray⟩) := hcc wr HB.out 4 _ (by rw [HX.out]; rfl)
    have a5 : wr.cell? ⟨g, o + k * 12 + 5, none⟩ = some (.slice x.cert.a x.cert.l.length x.cert.c) := hcc wr HB.out 5 _ (by rw [HX.out]; rfl)
    have a6 : wr.cell? ⟨g, o + k * 12 + 6, none⟩ = some (.int .i64 x.signed.server) := hcc wr HB.out 6 _ (by rw [HX.out]; rfl)
    have a7 : wr.cell? ⟨g, o + k * 12 + 7, none⟩ = some (.int .i64 x.signed.kind) := hcc wr HB.out 7 _ (by rw [HX.out]; rfl)
    have a8 : wr.cell? ⟨g, o + k * 12 + 8, none⟩ = some (.int .i64 x.signed.view) := hcc wr HB.out 8 _ (by rw [HX.out]; rfl)
    have a9 : wr.cell? ⟨g, o + k * 12 + 9, none⟩ = some (.int .i64 x.signed.slot) := hcc wr HB.out 9 _ (by rw [HX.out]; rfl)
    have a10 : wr.cell? ⟨g, o + k * 12 + 10, none⟩ = some (.string ⟨x.signed.digest.toArray⟩) := hcc wr HB.out 10 _ (by rw [HX.out]; rfl)
    have a11 : wr.cell? ⟨g, o + k * 12 + 11, none⟩ = some (.string ⟨x.signed.sig.toArray⟩) := hcc wr HB.out 11 _ (by rw [HX.out]; rfl)
    clear hcc
    go_wp2_with fail
    refine (HE.out x HM.out _ (HB.out.alloc hge _)).mono ?_
    rintro e w1 ⟨rfl, b1⟩
    have hz : wr.heap.size + 1 ≤ w1.heap.size := by have := b1.size; simpa using this
    have B1 : Hid (Below w.heap.size w w1) := hD ((HB.out.alloc hge _).trans (b1.mono (by simp; omega)))
    have HO1 : Hid (w1.ownsRow w.heap.size 9 1 _ k (strC ((l.take k).map encSt))) := hD (ownsRow_below (HO.out.alloc _) b1)
    clear b1 a0 a1 a2 a3 a4 a5 a6 a7 a8 a9 a10 a11
    go_wp2_with (at_builtin; refine wpList_append_own _ rfl _ _ 32 rfl w.heap.size 9 i0 _ 1 16 Tryz.underlying32 HI.out HZ0.out HZ1.out HZ2.out rfl (by decide) _ _ _ rfl (HO1.out.alloc _) ⟨w1.heap.size, 0, none⟩ 1 1 [.string ⟨(encSt x).toArray⟩] rfl rfl (cell_new _ _ _ _ rfl) (by simp [Value.oneCell']) (by simp [maxLen]; omega) (by omega) (by simp; omega) ?_)
    intro v' w2 hown' hgrow _
    have HO2 : Hid (w2.ownsRow w.heap.size 9 1 v' (k + 1) (strC ((l.take (k + 1)).map encSt))) := hD (by
     rw [List.take_succ_eq_append_getElem hlt, List.map_append, List.map_cons, List.map_nil, HX.out, strC_snoc]
     simpa only [List.map_take] using hown')
    have HG2 := hD hgrow
    clear hown' hgrow
    go_wp2_with fail
    go_roundw
    case rel =>
     refine ⟨k + 1, by go_num, by omega, HO2.out, below_grown (B1.out.alloc (by omega) _) (by simp; omega) HG2.out (fun g hg => (HO1.out.lt g hg).1), ?_⟩
     have := HG2.out.size; simp at this; omega
    case measure => simp [intOf]; omega
  · obtain rfl : k = l.length := by omega
    have HL : Hid (wr.ownsRow w.heap.size 9 1 _ l.length (strC (l.map encSt))) := hD (by have := HO.out; rwa [List.take_length] at this)
    obtain ⟨A', c', hv⟩ := ownsRow_form HL.out
    subst hv
    have HR2 := hD (Rd.own HL.out)
    go_wp2_with fail
    refine (HP.out _ _ _ HR2.out).mono ?_
    rintro e w1 ⟨rfl, b1⟩
    have B1 := hD b1
    clear b1
    go_wp2_with fail
    go_ret
    exact ret_st rfl (HB.out.trans (B1.out.mono hge))
open Go.RowKit
theorem deC_len (x : De) : (deC x).length = 3 := rfl
set_option maxRecDepth 100000 in
set_option maxHeartbeats 2000000 in
theorem listDe_any (A : Option Addr) (c : Nat) (l : List De) (w : World) (hr : Rd w 3 A l.length (l.flatMap deC)) (hok : ∀ x ∈ l, x.ok w) (hs : sum De.sz l ≤ 16777216) :
    Calls Tryz.prog 165 #[.slice A l.length c, .func (.func 166) #[] #[]] w (RetStr (putList (l.map encDe)) w) := by
 obtain ⟨i0, hi, hz0, hz1, hz2⟩ := info_parts infoS
 have HI := hD hi
 have HZ0 := hD hz0
 have HZ1 := hD hz1
 have HZ2 := hD hz2
 have HR := hD hr
 have hlen := list_len encDe De.sz l (fun x hx => encDe_len x w (hok x hx) (by have := sum_get De.sz l x hx; omega)) (fun x => by have := x.sz_ge; omega) hs
 have HE : Hid (∀ x ∈ l, ∀ w1, Below w.heap.size w w1 → Calls Tryz.prog 166 #[.agg #[.int .i64 x.view, .string ⟨x.value.toArray⟩, .slice x.cert.a x.cert.l.length x.cert.c]] w1 (RetStr (encDe x) w1)) :=
  hD (fun x hx w1 hb => codeEntry_any x w1 (De.below (hok x hx) hb) (by have := sum_get De.sz l x hx; omega))
 have HP : Hid (∀ w' A c, Rd w' 1 A l.length (strC (l.map encDe)) → Calls Tryz.prog 168 #[.slice A l.length c] w' (RetStr (putList (l.map encDe)) w')) := hD (fun w' A c h => by
  have h2 := putList_any A c (l.map encDe) w' (by simpa using h) (by simp; omega) (by omega)
  simpa using h2)
 have hn : l.length ≤ 16777216 := by omega
 clear hi hz0 hz1 hz2 hr hok hs hlen
 go_enter Tryz.func165, Tryz.ntmps165
 go_wp2_with fail
 go_loopw [5, 10] (fun o i wr => ∃ k : Nat, i = .int .i64 k ∧ k ≤ l.length ∧ wr.ownsRow w.heap.size 9 1 o k (strC ((l.take k).map encDe)) ∧ Below w.heap.size w wr ∧ w.heap.size ≤ wr.heap.size) (fun _ i _ => l.length - (intOf i).toNat)
 case atStart => exact ⟨0, rfl, by omega, by simpa [strC] using World.ownsRow_nil _ _ _ _, Below.refl _ _, Nat.le_refl _⟩
 case round =>
  obtain ⟨k, rfl, hk, hown, hb, hge⟩ := hrel
  have HO := hD hown
  have HB := hD hb
  clear hown hb
  by_cases hlt : k < l.length
  · have i0' : (0 : Int) ≤ (k : Int) := by omega
    have i1 : (k : Int) < (l.length : Int) := by omega
    obtain ⟨g, o, rfl, hg, hcc⟩ := HR.out.at deC_len (by omega) hlt
    obtain ⟨x, hx⟩ : ∃ x, x = l[k] := ⟨_, rfl⟩
    have HX := hD hx.symm
    have HM := hD (hx ▸ List.getElem_mem hlt : x ∈ l)
    clear hx
    have a0 : wr.cell? ⟨g, o + k * 3, none⟩ = some (.int .i64 x.view) := by simpa using hcc wr HB.out 0 _ (by rw [HX.out]; rfl)
    have a1 : wr.cell? ⟨g, o + k * 3 + 1, none⟩ = some (.string ⟨x.value.toArray⟩) := hcc wr HB.out 1 _ (by rw [HX.out]; rfl)
    have a2 : wr.cell? ⟨g, o + k * 3 + 2, none⟩ = some (.slice x.cert.a x.cert.l.length x.cert.c) := hcc wr HB.out 2 _ (by rw [HX.out]; rfl)
    clear hcc
    go_wp2_with fail
    refine (HE.out x HM.out _ (HB.out.alloc hge _)).mono ?_
    rintro e w1 ⟨rfl, b1⟩
    have hz : wr.heap.size + 1 ≤ w1.heap.size := by have := b1.size; simpa using this
    have B1 : Hid (Below w.heap.size w w1) := hD ((HB.out.alloc hge _).trans (b1.mono (by simp; omega)))
    have HO1 : Hid (w1.ownsRow w.heap.size 9 1 _ k (strC ((l.take k).map encDe))) := hD (ownsRow_below (HO.out.alloc _) b1)
    clear b1 a0 a1 a2
    go_wp2_with (at_builtin; refine wpList_append_own _ rfl _ _ 32 rfl w.heap.size 9 i0 _ 1 16 Tryz.underlying32 HI.out HZ0.out HZ1.out HZ2.out rfl (by decide) _ _ _ rfl (HO1.out.alloc _) ⟨w1.heap.size, 0, none⟩ 1 1 [.string ⟨(encDe x).toArray⟩] rfl rfl (cell_new _ _ _ _ rfl) (by simp [Value.oneCell']) (by simp [maxLen]; omega) (by omega) (by simp; omega) ?_)
    intro v' w2 hown' hgrow _
    have HO2 : Hid (w2.ownsRow w.heap.size 9 1 v' (k + 1) (strC ((l.take (k + 1)).map encDe))) := hD (by
     rw [List.take_succ_eq_append_getElem hlt, List.map_append, List.map_cons, List.map_nil, HX.out, strC_snoc]
     simpa only [List.map_take] using hown')
    have HG2 := hD hgrow
    clear hown' hgrow
    go_wp2_with fail
    go_roundw
    case rel =>
     refine ⟨k + 1, by go_num, by omega, HO2.out, below_grown (B1.out.alloc (by omega) _) (by simp; omega) HG2.out (fun g hg => (HO1.out.lt g hg).1), ?_⟩
     have := HG2.out.size; simp at this; omega
    case measure => simp [intOf]; omega
  · obtain rfl : k = l.length := by omega
    have HL : Hid (wr.ownsRow w.heap.size 9 1 _ l.length (strC (l.map encDe))) := hD (by have := HO.out; rwa [List.take_length] at this)
    obtain ⟨A', c', hv⟩ := ownsRow_form HL.out
    subst hv
    have HR2 := hD (Rd.own HL.out)
    go_wp2_with fail
    refine (HP.out _ _ _ HR2.out).mono ?_
    rintro e w1 ⟨rfl, b1⟩
    have B1 := hD b1
    clear b1
    go_wp2_with fail
    go_ret
    exact ret_st rfl (HB.out.trans (B1.out.mono hge))
open Go.RowKit
theorem hoC_len (x : Ho) : (hoC x).length = 4 := rfl
set_option maxRecDepth 100000 in
set_option maxHeartbeats 2000000 in
theorem listHo_any (A : Option Addr) (c : Nat) (l : List Ho) (w : World) (hr : Rd w 4 A l.length (l.flatMap hoC)) (hok : ∀ x ∈ l, x.ok w) (hs : sum Ho.sz l ≤ 16777216) :
    Calls Tryz.prog 222 #[.slice A l.length c, .func (.func 223) #[] #[]] w (RetStr (putList (l.map encHo)) w) := by
 obtain ⟨i0, hi, hz0, hz1, hz2⟩ := info_parts infoS
 have HI := hD hi
 have HZ0 := hD hz0
 have HZ1 := hD hz1
 have HZ2 := hD hz2
 have HR := hD hr
 have hlen := list_len encHo Ho.sz l (fun x hx => encHo_len x w (hok x hx) (by have := sum_get Ho.sz l x hx; omega)) (fun x => by have := x.sz_ge; omega) hs
 have HE : Hid (∀ x ∈ l, ∀ w1, Below w.heap.size w w1 → Calls Tryz.prog 223 #[.agg #[.int .i64 x.slot, .int .i64 x.entry.view, .string ⟨x.entry.value.toArray⟩, .slice x.entry.cert.a x.entry.cert.l.length x.entry.cert.c]] w1 (RetStr (encHo x) w1)) :=
  hD (fun x hx w1 hb => codeHo_any x w1 (Ho.below (hok x hx) hb) (by have := sum_get Ho.sz l x hx; omega))
 have HP : Hid (∀ w' A c, Rd w' 1 A l.length (strC (l.map encHo)) → Calls Tryz.prog 168 #[.slice A l.length c] w' (RetStr (putList (l.map encHo)) w')) := hD (fun w' A c h => by
  have h2 := putList_any A c (l.map encHo) w' (by simpa using h) (by simp; omega) (by omega)
  simpa using h2)
 have hn : l.length ≤ 16777216 := by omega
 clear hi hz0 hz1 hz2 hr hok hs hlen
 go_enter Tryz.func222, Tryz.ntmps222
 go_wp2_with fail
 go_loopw [5, 10] (fun o i wr => ∃ k : Nat, i = .int .i64 k ∧ k ≤ l.length ∧ wr.ownsRow w.heap.size 9 1 o k (strC ((l.take k).map encHo)) ∧ Below w.heap.size w wr ∧ w.heap.size ≤ wr.heap.size) (fun _ i _ => l.length - (intOf i).toNat)
 case atStart => exact ⟨0, rfl, by omega, by simpa [strC] using World.ownsRow_nil _ _ _ _, Below.refl _ _, Nat.le_refl _⟩
 case round =>
  obtain ⟨k, rfl, hk, hown, hb, hge⟩ := hrel
  have HO := hD hown
  have HB := hD hb
  clear hown hb
  by_cases hlt : k < l.length
  · have i0' : (0 : Int) ≤ (k : Int) := by omega
    have i1 : (k : Int) < (l.length : Int) := by omega
    obtain ⟨g, o, rfl, hg, hcc⟩ := HR.out.at hoC_len (by omega) hlt
    obtain ⟨x, hx⟩ : ∃ x, x = l[k] := ⟨_, rfl⟩
    have HX := hD hx.symm
    have HM := hD (hx ▸ List.getElem_mem hlt : x ∈ l)
    clear hx
    have a0 : wr.cell? ⟨g, o + k * 4, none⟩ = some (.int .i64 x.slot) := by simpa using hcc wr HB.out 0 _ (by rw [HX.out]; rfl)
    have a1 : wr.cell? ⟨g, o + k * 4 + 1, none⟩ = some (.int .i64 x.entry.view) := hcc wr HB.out 1 _ (by rw [HX.out]; rfl)
    have a2 : wr.cell? ⟨g, o + k * 4 + 2, none⟩ = some (.string ⟨x.entry.value.toArray⟩) := hcc wr HB.out 2 _ (by rw [HX.out]; rfl)
    have a3 : wr.cell? ⟨g, o + k * 4 + 3, none⟩ = some (.slice x.entry.cert.a x.entry.cert.l.length x.entry.cert.c) := hcc wr HB.out 3 _ (by rw [HX.out]; rfl)
    clear hcc
    go_wp2_with fail
    refine (HE.out x HM.out _ (HB.out.alloc hge _)).mono ?_
    rintro e w1 ⟨rfl, b1⟩
    have hz : wr.heap.size + 1 ≤ w1.heap.size := by have := b1.size; simpa using this
    have B1 : Hid (Below w.heap.size w w1) := hD ((HB.out.alloc hge _).trans (b1.mono (by simp; omega)))
    have HO1 : Hid (w1.ownsRow w.heap.size 9 1 _ k (strC ((l.take k).map encHo))) := hD (ownsRow_below (HO.out.alloc _) b1)
    clear b1 a0 a1 a2 a3
    go_wp2_with (at_builtin; refine wpList_append_own _ rfl _ _ 32 rfl w.heap.size 9 i0 _ 1 16 Tryz.underlying32 HI.out HZ0.out HZ1.out HZ2.out rfl (by decide) _ _ _ rfl (HO1.out.alloc _) ⟨w1.heap.size, 0, none⟩ 1 1 [.string ⟨(encHo x).toArray⟩] rfl rfl (cell_new _ _ _ _ rfl) (by simp [Value.oneCell']) (by simp [maxLen]; omega) (by omega) (by simp; omega) ?_)
    intro v' w2 hown' hgrow _
    have HO2 : Hid (w2.ownsRow w.heap.size 9 1 v' (k + 1) (strC ((l.take (k + 1)).map encHo))) := hD (by
     rw [List.take_succ_eq_append_getElem hlt, List.map_append, List.map_cons, List.map_nil, HX.out, strC_snoc]
     simpa only [List.map_take] using hown')
    have HG2 := hD hgrow
    clear hown' hgrow
    go_wp2_with fail
    go_roundw
    case rel =>
     refine ⟨k + 1, by go_num, by omega, HO2.out, below_grown (B1.out.alloc (by omega) _) (by simp; omega) HG2.out (fun g hg => (HO1.out.lt g hg).1), ?_⟩
     have := HG2.out.size; simp at this; omega
    case measure => simp [intOf]; omega
  · obtain rfl : k = l.length := by omega
    have HL : Hid (wr.ownsRow w.heap.size 9 1 _ l.length (strC (l.map encHo))) := hD (by have := HO.out; rwa [List.take_length] at this)
    obtain ⟨A', c', hv⟩ := ownsRow_form HL.out
    subst hv
    have HR2 := hD (Rd.own HL.out)
    go_wp2_with fail
    refine (HP.out _ _ _ HR2.out).mono ?_
    rintro e w1 ⟨rfl, b1⟩
    have B1 := hD b1
    clear b1
    go_wp2_with fail
    go_ret
    exact ret_st rfl (HB.out.trans (B1.out.mono hge))
open Go.RowKit
set_option maxRecDepth 100000 in
set_option maxHeartbeats 4000000 in
theorem codeSnapshot_any (x : Sn) (w : World) (hok : x.ok w) (hs : x.sz ≤ 16777216) :
    Calls Tryz.prog 167 #[.agg #[.int .i64 x.slot, .string ⟨x.root.toArray⟩, .slice x.chunks.a x.chunks.l.length x.chunks.c, .slice x.proof.a x.proof.l.length x.proof.c, .slice x.chain.a x.chain.l.length x.chain.c]] w (RetStr (encSn x) w) := by
 have hI := hok.1
 have hz := hs
 unfold Sn.sz at hz
 have hch := strL_len x.chunks.l (by omega)
 have HK : Hid (∀ w1, Below w.heap.size w w1 → Calls Tryz.prog 221 #[.slice x.proof.a x.proof.l.length x.proof.c, .func (.func 162) #[] #[]] w1 (RetStr (putList (x.proof.l.map encSg)) w1)) := hD (fun w1 hb => listSg_any _ _ _ w1 (Sl.rd_below hok.2.2.1.1 hb) hok.2.2.1.2 (by omega))
 have HL : Hid (∀ w1, Below w.heap.size w w1 → Calls Tryz.prog 168 #[.slice x.chunks.a x.chunks.l.length x.chunks.c] w1 (RetStr (putList x.chunks.l) w1)) := hD (fun w1 hb => putList_any _ _ _ w1 (by have := Sl.rd_below hok.2.1 hb; unfold Sl.rd at this; rwa [strV_strC] at this) (by omega) (by omega))
 have HH : Hid (∀ w1, Bx w (snC x) 36 w1 → Calls Tryz.prog 222 #[.slice x.chain.a x.chain.l.length x.chain.c, .func (.func 223) #[] #[]] w1 (Gives w (snC x) 36 (putList (x.chain.l.map encHo)))) := hD (fun w1 hb => gives_of hb (listHo_any _ _ _ w1 (Sl.rd_below hok.2.2.2.1 (bx_low hb)) (fun y hy => Ho.below (hok.2.2.2.2 y hy) (bx_low hb)) (by omega)))
 have hl1 := putInts_len [x.slot] (by simpa [List.forall_mem_cons] using hI) (by simp)
 simp only [List.length_cons, List.length_nil] at hl1
 have hl2 := putStr_len x.root (by omega)
 have hl3 := (cert_len x.proof.l hok.2.2.1.2 (by omega)).1
 have hl4 := hch.1
 have hl5 := (list_len encHo Ho.sz x.chain.l (fun y hy => encHo_len y w (hok.2.2.2.2 y hy) (by have := sum_get Ho.sz _ y hy; omega)) (fun y => by have := y.sz_ge; omega) (by omega)).1
 have HX0 : Hid (∀ (w1 : World) (g : Nat) (R : Prop), (Bx w (snC x) 36 ((w1.alloc (.cells #[.int .i64 x.slot] 3)).drew) ∧ R) → w1.heap.size = g → Calls Tryz.prog 160 #[.slice (some ⟨g, 0, none⟩) 1 1] ((w1.alloc (.cells #[.int .i64 x.slot] 3)).drew) (Gives w (snC x) 36 (putInts [x.slot]))) :=
  hD (fun w1 g _ hb hg => gives_ints [x.slot] (by simp) (by simpa [List.forall_mem_cons] using hI) (fun A c W hr => putInts_any A c _ W hr (by simp) (by simpa [List.forall_mem_cons] using hI)) hb.1 hg)
 have HX1 : Hid (∀ (t : List UInt8) (w1 : World) (R : Prop), t.length ≤ 70368744177664 → (Bx w (snC x) 36 w1 ∧ R) → Calls Tryz.prog 161 #[.string ⟨t.toArray⟩] w1 (Gives w (snC x) 36 (putStr t))) :=
  hD (fun t w1 _ ht hb => gives_of hb.1 (putString_any t ht w1))
 have HX2 : Hid (∀ (w1 : World) (R : Prop), (Bx w (snC x) 36 w1 ∧ R) → Calls Tryz.prog 168 #[.slice x.chunks.a x.chunks.l.length x.chunks.c] w1 (Gives w (snC x) 36 (putList x.chunks.l))) :=
  hD (fun w1 _ hb => gives_of hb.1 (HL.out w1 (bx_low hb.1)))
 have HX3 : Hid (∀ (w1 : World) (R : Prop), (Bx w (snC x) 36 w1 ∧ R) → Calls Tryz.prog 221 #[.slice x.proof.a x.proof.l.length x.proof.c, .func (.func 162) #[] #[]] w1 (Gives w (snC x) 36 (putList (x.proof.l.map encSg)))) :=
  hD (fun w1 _ hb => gives_of hb.1 (HK.out w1 (bx_low hb.1)))
 have HC : Hid (∀ w1, Bx w (snC x) 36 w1 → Bx w (snC x) 36 w1 ∧ w1.cell? ⟨w.heap.size, 0, none⟩ = some (.int .i64 x.slot) ∧ w1.cell? ⟨w.heap.size, 1, none⟩ = some (.string ⟨x.root.toArray⟩) ∧ w1.cell? ⟨w.heap.size, 2, none⟩ = some (.slice x.chunks.a x.chunks.l.length x.chunks.c) ∧ w1.cell? ⟨w.heap.size, 3, none⟩ = some (.slice x.proof.a x.proof.l.length x.proof.c) ∧ w1.cell? ⟨w.heap.size, 4, none⟩ = some (.slice x.chain.a x.chain.l.length x.chain.c)) :=
  hD (fun w1 hb => ⟨hb, bx_cell hb 0 _ rfl, bx_cell hb 1 _ rfl, bx_cell hb 2 _ rfl, bx_cell hb 3 _ rfl, bx_cell hb 4 _ rfl⟩)
 have hq0 : ¬ (9223372036854775807 < (putInts [x.slot]).length + (putStr x.root).length) := by omega
 have hq1 : ¬ (9223372036854775807 < (putInts [x.slot]).length + (putStr x.root).length + (putList x.chunks.l).length) := by omega
 have hq2 : ¬ (9223372036854775807 < (putInts [x.slot]).length + (putStr x.root).length + (putList x.chunks.l).length + (putList (x.proof.l.map encSg)).length) := by omega
 have hq3 : ¬ (9223372036854775807 < (putInts [x.slot]).length + (putStr x.root).length + (putList x.chunks.l).length + (putList (x.proof.l.map encSg)).length + (putList (x.chain.l.map encHo)).length) := by omega
 clear hok hs hch
 go_enter Tryz.func167, Tryz.ntmps167
 go_wp2_with fail
 refine (HH.out _ (bx_new w (snC x) 36)).mono ?_
 rintro e w9 ⟨rfl, b9⟩
 have H0 := hD b9
 have H1 := HC.out _ b9
 obtain ⟨-, k0, k1, k2, k3, k4⟩ := H1
 clear b9
 go_wp2_with fail
 go_region_held3 (fun w1 => Bx w (snC x) 36 w1 ∧ w1.cell? ⟨w.heap.size, 0, none⟩ = some (.int .i64 x.slot) ∧ w1.cell? ⟨w.heap.size, 1, none⟩ = some (.string ⟨x.root.toArray⟩) ∧ w1.cell? ⟨w.heap.size, 2, none⟩ = some (.slice x.chunks.a x.chunks.l.length x.chunks.c) ∧ w1.cell? ⟨w.heap.size, 3, none⟩ = some (.slice x.proof.a x.proof.l.length x.proof.c) ∧ w1.cell? ⟨w.heap.size, 4, none⟩ = some (.slice x.chain.a x.chain.l.length x.chain.c))
  (first | exact HC.out _ (bx_drew H0.out) | exact HC.out _ (bx_alloc (‹Bx _ _ _ _ ∧ _›).1 _) | exact HC.out _ ‹Bx _ _ _ _›)
  (first
   | (go_at_call 160; refine (HX0.out _ _ _ (by assumption) (by simp)).mono ?_; rintro e w2 ⟨rfl, b2⟩)
   | (go_at_call 161; refine (HX1.out _ _ _ (by omega) (by assumption)).mono ?_; rintro e w3 ⟨rfl, b3⟩)
   | (go_at_call 168; refine (HX2.out _ _ (by assumption)).mono ?_; rintro e w4 ⟨rfl, b4⟩)
   | (go_at_call 221; refine (HX3.out _ _ (by assumption)).mono ?_; rintro e w5 ⟨rfl, b5⟩))
 all_goals
  go_wp2_with fail
  go_ret
  exact ret_st (by rfl) (bx_low ‹_›)
open Go.RowKit
set_option maxRecDepth 100000 in
set_option maxHeartbeats 8000000 in
theorem code_any (m : Ms) (w : World) (hok : m.ok w) (hs : m.sz ≤ 16777216) :
    Calls Tryz.prog 115 #[.agg #[.int .i64 m.kind, .int .i64 m.src, .int .i64 m.dst, .int .i64 m.view, .int .i64 m.slot, .string ⟨m.value.toArray⟩, .int .i64 m.till, .int .i64 m.signed.server, .int .i64 m.signed.kind, .int .i64 m.signed.view, .int .i64 m.signed.slot, .string ⟨m.signed.digest.toArray⟩, .string ⟨m.signed.sig.toArray⟩, .slice m.statuses.a m.statuses.l.length m.statuses.c, .slice m.entries.a m.entries.l.length m.entries.c, .int .i64 m.snapshot.slot, .string ⟨m.snapshot.root.toArray⟩, .slice m.snapshot.chunks.a m.snapshot.chunks.l.length m.snapshot.chunks.c, .slice m.snapshot.proof.a m.snapshot.proof.l.length m.snapshot.proof.c, .slice m.snapshot.chain.a m.snapshot.chain.l.length m.snapshot.chain.c, .slice m.texts.a m.texts.l.length m.texts.c]] w (RetStr (encMs m) w) := by
 have hI := hok.1
 have hz := hs
 unfold Ms.sz at hz
 have hch := strL_len m.texts.l (by omega)
 have HG : Hid (∀ w1, Calls Tryz.prog 162 #[.agg #[.int .i64 m.signed.server, .int .i64 m.signed.kind, .int .i64 m.signed.view, .int .i64 m.signed.slot, .string ⟨m.signed.digest.toArray⟩, .string ⟨m.signed.sig.toArray⟩]] w1 (RetStr (encSg m.signed) w1)) := hD (fun w1 => sealEncode_any m.signed hok.2.1 (by omega) w1)
 have HL : Hid (∀ w1, Below w.heap.size w w1 → Calls Tryz.prog 168 #[.slice m.texts.a m.texts.l.length m.texts.c] w1 (RetStr (putList m.texts.l) w1)) := hD (fun w1 hb => putList_any _ _ _ w1 (by have := Sl.rd_below hok.2.2.2.2.2 hb; unfold Sl.rd at this; rwa [strV_strC] at this) (by omega) (by omega))
 have HS : Hid (∀ w1, Below w.heap.size w w1 → Calls Tryz.prog 163 #[.slice m.statuses.a m.statuses.l.length m.statuses.c, .func (.func 164) #[] #[]] w1 (RetStr (putList (m.statuses.l.map encSt)) w1)) := hD (fun w1 hb => listSt_any _ _ _ w1 (Sl.rd_below hok.2.2.1.1 hb) (fun y hy => St.below (hok.2.2.1.2 y hy) hb) (by omega))
 have HD : Hid (∀ w1, Below w.heap.size w w1 → Calls Tryz.prog 165 #[.slice m.entries.a m.entries.l.length m.entries.c, .func (.func 166) #[] #[]] w1 (RetStr (putList (m.entries.l.map encDe)) w1)) := hD (fun w1 hb => listDe_any _ _ _ w1 (Sl.rd_below hok.2.2.2.1.1 hb) (fun y hy => De.below (hok.2.2.2.1.2 y hy) hb) (by omega))
 have HN : Hid (∀ w1, Below w.heap.size w w1 → Calls Tryz.prog 167 #[.agg #[.int .i64 m.snapshot.slot, .string ⟨m.snapshot.root.toArray⟩, .slice m.snapshot.chunks.a m.snapshot.chunks.l.length m.snapshot.chunks.c, .slice m.snapshot.proof.a m.snapshot.proof.l.length m.snapshot.proof.c, .slice m.snapshot.chain.a m.snapshot.chain.l.length m.snapshot.chain.c]] w1 (RetStr (encSn m.snapshot) w1)) := hD (fun w1 hb => codeSnapshot_any _ w1 (Sn.below hok.2.2.2.2.1 hb) (by omega))
 have hl1 := putInts_len [m.kind, m.src, m.dst, m.view, m.slot, m.till] (by simpa [List.forall_mem_cons] using hI) (by simp)
 simp only [List.length_cons, List.length_nil] at hl1
 have hl2 := putStr_len m.value (by omega)
 have hl3 := encSg_len m.signed hok.2.1 (by omega)
 have hl4 := putStr_len (encSg m.signed) (by omega)
 have hl9 := hch.1
 have hl5 := (list_len encSt St.sz m.statuses.l (fun y hy => encSt_len y w (hok.2.2.1.2 y hy) (by have := sum_get St.sz _ y hy; omega)) (fun y => by have := y.sz_ge; omega) (by omega)).1
 have hl6 := (list_len encDe De.sz m.entries.l (fun y hy => encDe_len y w (hok.2.2.2.1.2 y hy) (by have := sum_get De.sz _ y hy; omega)) (fun y => y.sz_ge) (by omega)).1
 have hl7 := encSn_len m.snapshot w hok.2.2.2.2.1 (by omega)
 have hl8 := putStr_len (encSn m.snapshot) (by omega)
 have HX0 : Hid (∀ (w1 : World) (g : Nat) (R : Prop), (Bx w (msC m) 38 ((w1.alloc (.cells #[.int .i64 m.kind, .int .i64 m.src, .int .i64 m.dst, .int .i64 m.view, .int .i64 m.slot, .int .i64 m.till] 3)).drew) ∧ R) → w1.heap.size = g → Calls Tryz.prog 160 #[.slice (some ⟨g, 0, none⟩) 6 6] ((w1.alloc (.cells #[.int .i64 m.kind, .int .i64 m.src, .int .i64 m.dst, .int .i64 m.view, .int .i64 m.slot, .int .i64 m.till] 3)).drew) (Gives w (msC m) 38 (putInts [m.kind, m.src, m.dst, m.view, m.slot, m.till]))) :=
  hD (fun w1 g _ hb hg => gives_ints [m.kind, m.src, m.dst, m.view, m.slot, m.till] (by simp) (by simpa [List.forall_mem_cons] using hI) (fun A c W hr => putInts_any A c _ W hr (by simp) (by simpa [List.forall_mem_cons] using hI)) hb.1 hg)
 have HX1 : Hid (∀ (t : List UInt8) (w1 : World) (R : Prop), t.length ≤ 70368744177664 → (Bx w (msC m) 38 w1 ∧ R) → Calls Tryz.prog 161 #[.string ⟨t.toArray⟩] w1 (Gives w (msC m) 38 (putStr t))) :=
  hD (fun t w1 _ ht hb => gives_of hb.1 (putString_any t ht w1))
 have HX2 : Hid (∀ (w1 : World) (R : Prop), (Bx w (msC m) 38 w1 ∧ R) → Calls Tryz.prog 162 #[.agg #[.int .i64 m.signed.server, .int .i64 m.signed.kind, .int .i64 m.signed.view, .int .i64 m.signed.slot, .string ⟨m.signed.digest.toArray⟩, .string ⟨m.signed.sig.toArray⟩]] w1 (Gives w (msC m) 38 (encSg m.signed))) :=
  hD (fun w1 _ hb => gives_of hb.1 (HG.out w1))
 have HX3 : Hid (∀ (w1 : World) (R : Prop), (Bx w (msC m) 38 w1 ∧ R) → Calls Tryz.prog 163 #[.slice m.statuses.a m.statuses.l.length m.statuses.c, .func (.func 164) #[] #[]] w1 (Gives w (msC m) 38 (putList (m.statuses.l.map encSt)))) :=
  hD (fun w1 _ hb => gives_of hb.1 (HS.out w1 (bx_low hb.1)))
 have HX4 : Hid (∀ (w1 : World) (R : Prop), (Bx w (msC m) 38 w1 ∧ R) → Calls Tryz.prog 165 #[.slice m.entries.a m.entries.l.length m.entries.c, .func (.func 166) #[] #[]] w1 (Gives w (msC m) 38 (putList (m.entries.l.map encDe)))) :=
  hD (fun w1 _ hb => gives_of hb.1 (HD.out w1 (bx_low hb.1)))
 have HX5 : Hid (∀ (w1 : World) (R : Prop), (Bx w (msC m) 38 w1 ∧ R) → Calls Tryz.prog 167 #[.agg #[.int .i64 m.snapshot.slot, .string ⟨m.snapshot.root.toArray⟩, .slice m.snapshot.chunks.a m.snapshot.chunks.l.length m.snapshot.chunks.c, .slice m.snapshot.proof.a m.snapshot.proof.l.length m.snapshot.proof.c, .slice m.snapshot.chain.a m.snapshot.chain.l.length m.snapshot.chain.c]] w1 (Gives w (msC m) 38 (encSn m.snapshot))) :=
  hD (fun w1 _ hb => gives_of hb.1 (HN.out w1 (bx_low hb.1)))
 have HX6 : Hid (∀ (w1 : World) (R : Prop), (Bx w (msC m) 38 w1 ∧ R) → Calls Tryz.prog 168 #[.slice m.texts.a m.texts.l.length m.texts.c] w1 (Gives w (msC m) 38 (putList m.texts.l))) :=
  hD (fun w1 _ hb => gives_of hb.1 (HL.out w1 (bx_low hb.1)))
 have HC : Hid (∀ w1, Bx w (msC m) 38 w1 → Bx w (msC m) 38 w1 ∧ w1.cell? ⟨w.heap.size, 0, none⟩ = some (.int .i64 m.kind) ∧ w1.cell? ⟨w.heap.size, 1, none⟩ = some (.int .i64 m.src) ∧ w1.cell? ⟨w.heap.size, 2, none⟩ = some (.int .i64 m.dst) ∧ w1.cell? ⟨w.heap.size, 3, none⟩ = some (.int .i64 m.view) ∧ w1.cell? ⟨w.heap.size, 4, none⟩ = some (.int .i64 m.slot) ∧ w1.cell? ⟨w.heap.size, 5, none⟩ = some (.string ⟨m.value.toArray⟩) ∧ w1.cell? ⟨w.heap.size, 6, none⟩ = some (.int .i64 m.till) ∧ w1.cell? ⟨w.heap.size, 7, none⟩ = some (.int .i64 m.signed.server) ∧ w1.cell? ⟨w.heap.size, 8, none⟩ = some (.int .i64 m.signed.kind) ∧ w1.cell? ⟨w.heap.size, 9, none⟩ = some (.int .i64 m.signed.view) ∧ w1.cell? ⟨w.heap.size, 10, none⟩ = some (.int .i64 m.signed.slot) ∧ w1.cell? ⟨w.heap.size, 11, none⟩ = some (.string ⟨m.signed.digest.toArray⟩) ∧ w1.cell? ⟨w.heap.size, 12, none⟩ = some (.string ⟨m.signed.sig.toArray⟩) ∧ w1.cell? ⟨w.heap.size, 13, none⟩ = some (.slice m.statuses.a m.statuses.l.length m.statuses.c) ∧ w1.cell? ⟨w.heap.size, 14, none⟩ = some (.slice m.entries.a m.entries.l.length m.entries.c) ∧ w1.cell? ⟨w.heap.size, 15, none⟩ = some (.int .i64 m.snapshot.slot) ∧ w1.cell? ⟨w.heap.size, 16, none⟩ = some (.string ⟨m.snapshot.root.toArray⟩) ∧ w1.cell? ⟨w.heap.size, 17, none⟩ = some (.slice m.snapshot.chunks.a m.snapshot.chunks.l.length m.snapshot.chunks.c) ∧ w1.cell? ⟨w.heap.size, 18, none⟩ = some (.slice m.snapshot.proof.a m.snapshot.proof.l.length m.snapshot.proof.c) ∧ w1.cell? ⟨w.heap.size, 19, none⟩ = some (.slice m.snapshot.chain.a m.snapshot.chain.l.length m.snapshot.chain.c) ∧ w1.cell? ⟨w.heap.size, 20, none⟩ = some (.slice m.texts.a m.texts.l.length m.texts.c)) :=
  hD (fun w1 hb => ⟨hb, bx_cell hb 0 _ rfl, bx_cell hb 1 _ rfl, bx_cell hb 2 _ rfl, bx_cell hb 3 _ rfl, bx_cell hb 4 _ rfl, bx_cell hb 5 _ rfl, bx_cell hb 6 _ rfl, bx_cell hb 7 _ rfl, bx_cell hb 8 _ rfl, bx_cell hb 9 _ rfl, bx_cell hb 10 _ rfl, bx_cell hb 11 _ rfl, bx_cell hb 12 _ rfl, bx_cell hb 13 _ rfl, bx_cell hb 14 _ rfl, bx_cell hb 15 _ rfl, bx_cell hb 16 _ rfl, bx_cell hb 17 _ rfl, bx_cell hb 18 _ rfl, bx_cell hb 19 _ rfl, bx_cell hb 20 _ rfl⟩)
 have H0 := hD (bx_new w (msC m) 38)
 have hq0 : ¬ (9223372036854775807 < (putInts [m.kind, m.src, m.dst, m.view, m.slot, m.till]).length + (putStr m.value).length) := by omega
 have hq1 : ¬ (9223372036854775807 < (putInts [m.kind, m.src, m.dst, m.view, m.slot, m.till]).length + (putStr m.value).length + (putStr (encSg m.signed)).length) := by omega
 have hq2 : ¬ (9223372036854775807 < (putInts [m.kind, m.src, m.dst, m.view, m.slot, m.till]).length + (putStr m.value).length + (putStr (encSg m.signed)).length + (putList (m.statuses.l.map encSt)).length) := by omega
 have hq3 : ¬ (9223372036854775807 < (putInts [m.kind, m.src, m.dst, m.view, m.slot, m.till]).length + (putStr m.value).length + (putStr (encSg m.signed)).length + (putList (m.statuses.l.map encSt)).length + (putList (m.entries.l.map encDe)).length) := by omega
 have hq4 : ¬ (9223372036854775807 < (putInts [m.kind, m.src, m.dst, m.view, m.slot, m.till]).length + (putStr m.value).length + (putStr (encSg m.signed)).length + (putList (m.statuses.l.map encSt)).length + (putList (m.entries.l.map encDe)).length + (putStr (encSn m.snapshot)).length) := by omega
 have hq5 : ¬ (9223372036854775807 < (putInts [m.kind, m.src, m.dst, m.view, m.slot, m.till]).length + (putStr m.value).length + (putStr (encSg m.signed)).length + (putList (m.statuses.l.map encSt)).length + (putList (m.entries.l.map encDe)).length + (putStr (encSn m.snapshot)).length + (putList m.texts.l).length) := by omega
 clear hok hs hch
 go_enter Tryz.func115, Tryz.ntmps115
 go_wp2_with fail
 go_region_held3 (fun w1 => Bx w (msC m) 38 w1 ∧ w1.cell? ⟨w.heap.size, 0, none⟩ = some (.int .i64 m.kind) ∧ w1.cell? ⟨w.heap.size, 1, none⟩ = some (.int .i64 m.src) ∧ w1.cell? ⟨w.heap.size, 2, none⟩ = some (.int .i64 m.dst) ∧ w1.cell? ⟨w.heap.size, 3, none⟩ = some (.int .i64 m.view) ∧ w1.cell? ⟨w.heap.size, 4, none⟩ = some (.int .i64 m.slot) ∧ w1.cell? ⟨w.heap.size, 5, none⟩ = some (.string ⟨m.value.toArray⟩) ∧ w1.cell? ⟨w.heap.size, 6, none⟩ = some (.int .i64 m.till) ∧ w1.cell? ⟨w.heap.size, 7, none⟩ = some (.int .i64 m.signed.server) ∧ w1.cell? ⟨w.heap.size, 8, none⟩ = some (.int .i64 m.signed.kind) ∧ w1.cell? ⟨w.heap.size, 9, none⟩ = some (.int .i64 m.signed.view) ∧ w1.cell? ⟨w.heap.size, 10, none⟩ = some (.int .i64 m.signed.slot) ∧ w1.cell? ⟨w.heap.size, 11, none⟩ = some (.string ⟨m.signed.digest.toArray⟩) ∧ w1.cell? ⟨w.heap.size, 12, none⟩ = some (.string ⟨m.signed.sig.toArray⟩) ∧ w1.cell? ⟨w.heap.size, 13, none⟩ = some (.slice m.statuses.a m.statuses.l.length m.statuses.c) ∧ w1.cell? ⟨w.heap.size, 14, none⟩ = some (.slice m.entries.a m.entries.l.length m.entries.c) ∧ w1.cell? ⟨w.heap.size, 15, none⟩ = some (.int .i64 m.snapshot.slot) ∧ w1.cell? ⟨w.heap.size, 16, none⟩ = some (.string ⟨m.snapshot.root.toArray⟩) ∧ w1.cell? ⟨w.heap.size, 17, none⟩ = some (.slice m.snapshot.chunks.a m.snapshot.chunks.l.length m.snapshot.chunks.c) ∧ w1.cell? ⟨w.heap.size, 18, none⟩ = some (.slice m.snapshot.proof.a m.snapshot.proof.l.length m.snapshot.proof.c) ∧ w1.cell? ⟨w.heap.size, 19, none⟩ = some (.slice m.snapshot.chain.a m.snapshot.chain.l.length m.snapshot.chain.c) ∧ w1.cell? ⟨w.heap.size, 20, none⟩ = some (.slice m.texts.a m.texts.l.length m.texts.c))
  (first | exact HC.out _ (bx_drew H0.out) | exact HC.out _ (bx_alloc (‹Bx _ _ _ _ ∧ _›).1 _) | exact HC.out _ ‹Bx _ _ _ _›)
  (first
   | (go_at_call 160; refine (HX0.out _ _ _ (by assumption) (by simp)).mono ?_; rintro e w2 ⟨rfl, b2⟩)
   | (go_at_call 161; refine (HX1.out _ _ _ (by omega) (by assumption)).mono ?_; rintro e w3 ⟨rfl, b3⟩)
   | (go_at_call 162; refine (HX2.out _ _ (by assumption)).mono ?_; rintro e w4 ⟨rfl, b4⟩)
   | (go_at_call 163; refine (HX3.out _ _ (by assumption)).mono ?_; rintro e w5 ⟨rfl, b5⟩)
   | (go_at_call 165; refine (HX4.out _ _ (by assumption)).mono ?_; rintro e w6 ⟨rfl, b6⟩)
   | (go_at_call 167; refine (HX5.out _ _ (by assumption)).mono ?_; rintro e w7 ⟨rfl, b7⟩)
   | (go_at_call 168; refine (HX6.out _ _ (by assumption)).mono ?_; rintro e w8 ⟨rfl, b8⟩))
 all_goals
  go_wp2_with fail
  go_ret
  exact ret_st (by rfl) (bx_low ‹_›)
end Go.Proofs.YtepbbaifpckcpaaGreatDoor
