/- The contract of the reference's code of a message. -/
import Derived.Test.YtoehakekjlebdaaDoorRefSn
namespace Go.Proofs.YtoehakekjlebdaaDoor
open Go.RowKit

theorem stC_len'' (x : St) : (stC x).length = 12 := rfl
theorem deC_len'' (x : De) : (deC x).length = 3 := rfl
set_option maxRecDepth 100000 in
set_option maxHeartbeats 16000000 in
theorem refEncode_any (m : Ms) (w : World) (hok : m.ok w) (hs : m.sz ≤ 16777216) :
    Calls Tryd.prog 18 #[.agg #[.int .i64 m.kind, .int .i64 m.src, .int .i64 m.dst, .int .i64 m.view, .int .i64 m.slot, .string ⟨m.value.toArray⟩, .int .i64 m.till, .int .i64 m.signed.server, .int .i64 m.signed.kind, .int .i64 m.signed.view, .int .i64 m.signed.slot, .string ⟨m.signed.digest.toArray⟩, .string ⟨m.signed.sig.toArray⟩, .slice m.statuses.a m.statuses.l.length m.statuses.c, .slice m.entries.a m.entries.l.length m.entries.c, .int .i64 m.snapshot.slot, .string ⟨m.snapshot.root.toArray⟩, .slice m.snapshot.chunks.a m.snapshot.chunks.l.length m.snapshot.chunks.c, .slice m.snapshot.proof.a m.snapshot.proof.l.length m.snapshot.proof.c, .slice m.snapshot.chain.a m.snapshot.chain.l.length m.snapshot.chain.c, .slice m.texts.a m.texts.l.length m.texts.c]] w (RetStr (encMs m) w) := by
  obtain ⟨i0, hi, hz0, hz1, hz2⟩ := info_parts infoS
  have HI := Lib.hid hi
  have HZ0 := Lib.hid hz0
  have HZ1 := Lib.hid hz1
  have HZ2 := Lib.hid hz2
  have HRSt : Hid (Rd w 12 m.statuses.a m.statuses.l.length (m.statuses.l.flatMap stC)) := Lib.hid hok.2.2.1.1
  have HRDe : Hid (Rd w 3 m.entries.a m.entries.l.length (m.entries.l.flatMap deC)) := Lib.hid hok.2.2.2.1.1
  have hz := hs
  unfold Ms.sz at hz
  have hch := strL_len m.texts.l (by omega)
  have hls := list_len encSt St.sz m.statuses.l (fun y hy => encSt_len y w (hok.2.2.1.2 y hy) (by have := sum_get St.sz _ y hy; omega)) (fun y => by have := y.sz_ge; omega) (by omega)
  have hle := list_len encDe De.sz m.entries.l (fun y hy => encDe_len y w (hok.2.2.2.1.2 y hy) (by have := sum_get De.sz _ y hy; omega)) (fun y => y.sz_ge) (by omega)
  have hn1 : m.statuses.l.length ≤ 16777216 := by omega
  have hn2 : m.entries.l.length ≤ 16777216 := by omega
  have HESt : Hid (∀ x ∈ m.statuses.l, ∀ w1, Below w.heap.size w w1 → Calls Tryd.prog 36 #[.agg #[.int .i64 x.server, .int .i64 x.view, .int .i64 x.length, .int .i64 x.lockView, .string ⟨x.lock.toArray⟩, .slice x.cert.a x.cert.l.length x.cert.c, .int .i64 x.signed.server, .int .i64 x.signed.kind, .int .i64 x.signed.view, .int .i64 x.signed.slot, .string ⟨x.signed.digest.toArray⟩, .string ⟨x.signed.sig.toArray⟩]] w1 (RetStr (encSt x) w1)) :=
    Lib.hid (fun x hx w1 hb => refStatus_any x w1 (St.below (hok.2.2.1.2 x hx) hb) (by have := sum_get St.sz _ x hx; omega))
  have HEDe : Hid (∀ x ∈ m.entries.l, ∀ w1, Below w.heap.size w w1 → Calls Tryd.prog 37 #[.agg #[.int .i64 x.view, .string ⟨x.value.toArray⟩, .slice x.cert.a x.cert.l.length x.cert.c]] w1 (RetStr (encDe x) w1)) :=
    Lib.hid (fun x hx w1 hb => refEntry_any x w1 (De.below (hok.2.2.2.1.2 x hx) hb) (by have := sum_get De.sz _ x hx; omega))
  have HG : Hid (∀ w1, Calls Tryd.prog 40 #[.agg #[.int .i64 m.signed.server, .int .i64 m.signed.kind, .int .i64 m.signed.view, .int .i64 m.signed.slot, .string ⟨m.signed.digest.toArray⟩, .string ⟨m.signed.sig.toArray⟩]] w1 (RetStr (encSg m.signed) w1)) := Lib.hid (fun w1 => refSg_any m.signed w1 hok.2.1 (by omega))
  have HN : Hid (∀ w1, Below w.heap.size w w1 → Calls Tryd.prog 42 #[.agg #[.int .i64 m.snapshot.slot, .string ⟨m.snapshot.root.toArray⟩, .slice m.snapshot.chunks.a m.snapshot.chunks.l.length m.snapshot.chunks.c, .slice m.snapshot.proof.a m.snapshot.proof.l.length m.snapshot.proof.c, .slice m.snapshot.chain.a m.snapshot.chain.l.length m.snapshot.chain.c]] w1 (RetStr (encSn m.snapshot) w1)) := Lib.hid (fun w1 hb => refSnapshot_any _ w1 (Sn.below hok.2.2.2.2.1 hb) (by omega))
  have HT : Hid (∀ w1, Below w.heap.size w w1 → Calls Tryd.prog 41 #[.slice m.texts.a m.texts.l.length m.texts.c] w1 (RetStr (putList m.texts.l) w1)) := Lib.hid (fun w1 hb => refPutList_any _ _ _ w1 (by have := Sl.rd_below hok.2.2.2.2.2 hb; unfold Sl.rd at this; rwa [strV_strC] at this) (by omega) (by omega))
  have HS : Hid (∀ w1 A c, Rd w1 1 A m.statuses.l.length (strC (m.statuses.l.map encSt)) → Calls Tryd.prog 41 #[.slice A m.statuses.l.length c] w1 (RetStr (putList (m.statuses.l.map encSt)) w1)) := Lib.hid (fun w1 A c hr => by have h4 := refPutList_any A c (m.statuses.l.map encSt) w1 (by simpa using hr) (by simp; omega) (by omega); simpa using h4)
  have HD : Hid (∀ w1 A c, Rd w1 1 A m.entries.l.length (strC (m.entries.l.map encDe)) → Calls Tryd.prog 41 #[.slice A m.entries.l.length c] w1 (RetStr (putList (m.entries.l.map encDe)) w1)) := Lib.hid (fun w1 A c hr => by have h4 := refPutList_any A c (m.entries.l.map encDe) w1 (by simpa using hr) (by simp; omega) (by omega); simpa using h4)
  have hI := hok.1
  have hl1 := putInts_len [m.kind, m.src, m.dst, m.view, m.slot, m.till] (by simpa [List.forall_mem_cons] using hI) (by simp)
  simp only [List.length_cons, List.length_nil] at hl1
  have hl2 := putStr_len m.value (by omega)
  have hl3 := encSg_len m.signed hok.2.1 (by omega)
  have hl4 := putStr_len (encSg m.signed) (by omega)
  have hl5 := hls.1
  have hl6 := hle.1
  have hl7 := encSn_len m.snapshot w hok.2.2.2.2.1 (by omega)
  have hl8 := putStr_len (encSn m.snapshot) (by omega)
  have hl9 := hch.1
  have hq0 : ¬ (9223372036854775807 < (putInts [m.kind, m.src, m.dst, m.view, m.slot, m.till]).length + (putStr m.value).length) := by omega
  have hq1 : ¬ (9223372036854775807 < (putInts [m.kind, m.src, m.dst, m.view, m.slot, m.till]).length + (putStr m.value).length + (putStr (encSg m.signed)).length) := by omega
  have hq2 : ¬ (9223372036854775807 < (putInts [m.kind, m.src, m.dst, m.view, m.slot, m.till]).length + (putStr m.value).length + (putStr (encSg m.signed)).length + (putList (m.statuses.l.map encSt)).length) := by omega
  have hq3 : ¬ (9223372036854775807 < (putInts [m.kind, m.src, m.dst, m.view, m.slot, m.till]).length + (putStr m.value).length + (putStr (encSg m.signed)).length + (putList (m.statuses.l.map encSt)).length + (putList (m.entries.l.map encDe)).length) := by omega
  have hq4 : ¬ (9223372036854775807 < (putInts [m.kind, m.src, m.dst, m.view, m.slot, m.till]).length + (putStr m.value).length + (putStr (encSg m.signed)).length + (putList (m.statuses.l.map encSt)).length + (putList (m.entries.l.map encDe)).length + (putStr (encSn m.snapshot)).length) := by omega
  have hq5 : ¬ (9223372036854775807 < (putInts [m.kind, m.src, m.dst, m.view, m.slot, m.till]).length + (putStr m.value).length + (putStr (encSg m.signed)).length + (putList (m.statuses.l.map encSt)).length + (putList (m.entries.l.map encDe)).length + (putStr (encSn m.snapshot)).length + (putList m.texts.l).length) := by omega
  have HC5 : Hid (∀ w1, Bx w (msC m) 32 w1 → w1.cell? ⟨w.heap.size, 0, none⟩ = some (.int .i64 m.kind) ∧ w1.cell? ⟨w.heap.size, 1, none⟩ = some (.int .i64 m.src) ∧ w1.cell? ⟨w.heap.size, 2, none⟩ = some (.int .i64 m.dst) ∧ w1.cell? ⟨w.heap.size, 3, none⟩ = some (.int .i64 m.view) ∧ w1.cell? ⟨w.heap.size, 4, none⟩ = some (.int .i64 m.slot) ∧ w1.cell? ⟨w.heap.size, 5, none⟩ = some (.string ⟨m.value.toArray⟩) ∧ w1.cell? ⟨w.heap.size, 6, none⟩ = some (.int .i64 m.till) ∧ w1.cell? ⟨w.heap.size, 7, none⟩ = some (.int .i64 m.signed.server) ∧ w1.cell? ⟨w.heap.size, 8, none⟩ = some (.int .i64 m.signed.kind) ∧ w1.cell? ⟨w.heap.size, 9, none⟩ = some (.int .i64 m.signed.view) ∧ w1.cell? ⟨w.heap.size, 10, none⟩ = some (.int .i64 m.signed.slot) ∧ w1.cell? ⟨w.heap.size, 11, none⟩ = some (.string ⟨m.signed.digest.toArray⟩) ∧ w1.cell? ⟨w.heap.size, 12, none⟩ = some (.string ⟨m.signed.sig.toArray⟩) ∧ w1.cell? ⟨w.heap.size, 13, none⟩ = some (.slice m.statuses.a m.statuses.l.length m.statuses.c) ∧ w1.cell? ⟨w.heap.size, 14, none⟩ = some (.slice m.entries.a m.entries.l.length m.entries.c) ∧ w1.cell? ⟨w.heap.size, 15, none⟩ = some (.int .i64 m.snapshot.slot) ∧ w1.cell? ⟨w.heap.size, 16, none⟩ = some (.string ⟨m.snapshot.root.toArray⟩) ∧ w1.cell? ⟨w.heap.size, 17, none⟩ = some (.slice m.snapshot.chunks.a m.snapshot.chunks.l.length m.snapshot.chunks.c) ∧ w1.cell? ⟨w.heap.size, 18, none⟩ = some (.slice m.snapshot.proof.a m.snapshot.proof.l.length m.snapshot.proof.c) ∧ w1.cell? ⟨w.heap.size, 19, none⟩ = some (.slice m.snapshot.chain.a m.snapshot.chain.l.length m.snapshot.chain.c) ∧ w1.cell? ⟨w.heap.size, 20, none⟩ = some (.slice m.texts.a m.texts.l.length m.texts.c)) :=
    Lib.hid (fun w1 hb => ⟨bx_cell hb 0 _ rfl, bx_cell hb 1 _ rfl, bx_cell hb 2 _ rfl, bx_cell hb 3 _ rfl, bx_cell hb 4 _ rfl, bx_cell hb 5 _ rfl, bx_cell hb 6 _ rfl, bx_cell hb 7 _ rfl, bx_cell hb 8 _ rfl, bx_cell hb 9 _ rfl, bx_cell hb 10 _ rfl, bx_cell hb 11 _ rfl, bx_cell hb 12 _ rfl, bx_cell hb 13 _ rfl, bx_cell hb 14 _ rfl, bx_cell hb 15 _ rfl, bx_cell hb 16 _ rfl, bx_cell hb 17 _ rfl, bx_cell hb 18 _ rfl, bx_cell hb 19 _ rfl, bx_cell hb 20 _ rfl⟩)
  have HB0 := Lib.hid (bx_new w (msC m) 32)
  clear hi hz0 hz1 hz2 hok hch hls hle hs
  go_enter Tryd.func18, Tryd.ntmps18
  go_wp2_with fail
  go_loopw [3, 5] (fun o i wr => ∃ k : Nat, i = .int .i64 k ∧ k ≤ m.statuses.l.length ∧ wr.ownsRow (w.heap.size + 1) 9 1 o k (strC ((m.statuses.l.take k).map encSt)) ∧ Bx w (msC m) 32 wr) (fun _ i _ => m.statuses.l.length - (intOf i).toNat)
  case atStart => exact ⟨0, rfl, by omega, by simpa [strC] using World.ownsRow_nil _ _ _ _, HB0.out⟩
  case round =>
    obtain ⟨k, rfl, hk, hown, hb⟩ := hrel
    have HO := Lib.hid hown
    have HB := Lib.hid hb
    have HLw := Lib.hid (bx_low hb)
    have hge := bx_size hb
    obtain ⟨b0, b1, b2, b3, b4, b5, b6, b7, b8, b9, b10, b11, b12, b13, b14, b15, b16, b17, b18, b19, b20⟩ := HC5.out wr hb
    clear hown hb
    by_cases hlt : k < m.statuses.l.length
    · have i0' : (0 : Int) ≤ (k : Int) := by omega
      have i1 : (k : Int) < (m.statuses.l.length : Int) := by omega
      obtain ⟨g, o, hxa, hg, hcc⟩ := HRSt.out.at stC_len'' (by omega) hlt (w' := w)
      obtain ⟨x, hx⟩ : ∃ x, x = m.statuses.l[k] := ⟨_, rfl⟩
      have HX := Lib.hid hx.symm
      have HM := Lib.hid (hx ▸ List.getElem_mem hlt : x ∈ m.statuses.l)
      clear hx
      rw [hxa] at b13
      have HXA := Lib.hid hxa
      clear hxa
      have a0 : wr.cell? ⟨g, o + k * 12, none⟩ = some (.int .i64 x.server) := by simpa using hcc wr HLw.out 0 _ (by rw [HX.out]; rfl)
      have a1 : wr.cell? ⟨g, o + k * 12 + 1, none⟩ = some (.int .i64 x.view) := hcc wr HLw.out 1 _ (by rw [HX.out]; rfl)
      have a2 : wr.cell? ⟨g, o + k * 12 + 2, none⟩ = some (.int .i64 x.length) := hcc wr HLw.out 2 _ (by rw [HX.out]; rfl)
      have a3 : wr.cell? ⟨g, o + k * 12 + 3, none⟩ = some (.int .i64 x.lockView) := hcc wr HLw.out 3 _ (by rw [HX.out]; rfl)
      have a4 : wr.cell? ⟨g, o + k * 12 + 4, none⟩ = some (.string ⟨x.lock.toArray⟩) := hcc wr HLw.out 4 _ (by rw [HX.out]; rfl)
      have a5 : wr.cell? ⟨g, o + k * 12 + 5, none⟩ = some (.slice x.cert.a x.cert.l.length x.cert.c) := hcc wr HLw.out 5 _ (by rw [HX.out]; rfl)
      have a6 : wr.cell? ⟨g, o + k * 12 + 6, none⟩ = some (.int .i64 x.signed.server) := hcc wr HLw.out 6 _ (by rw [HX.out]; rfl)
      have a7 : wr.cell? ⟨g, o + k * 12 + 7, none⟩ = some (.int .i64 x.signed.kind) := hcc wr HLw.out 7 _ (by rw [HX.out]; rfl)
      have a8 : wr.cell? ⟨g, o + k * 12 + 8, none⟩ = some (.int .i64 x.signed.view) := hcc wr HLw.out 8 _ (by rw [HX.out]; rfl)
      have a9 : wr.cell? ⟨g, o + k * 12 + 9, none⟩ = some (.int .i64 x.signed.slot) := hcc wr HLw.out 9 _ (by rw [HX.out]; rfl)
      have a10 : wr.cell? ⟨g, o + k * 12 + 10, none⟩ = some (.string ⟨x.signed.digest.toArray⟩) := hcc wr HLw.out 10 _ (by rw [HX.out]; rfl)
      have a11 : wr.cell? ⟨g, o + k * 12 + 11, none⟩ = some (.string ⟨x.signed.sig.toArray⟩) := hcc wr HLw.out 11 _ (by rw [HX.out]; rfl)
      clear hcc
      go_wp2_with fail
      refine ((HESt.out x HM.out _ HLw.out)).mono ?_
      rintro e w1 ⟨rfl, b1⟩
      have hz : wr.heap.size ≤ w1.heap.size := b1.size
      have HO1 : Hid (w1.ownsRow (w.heap.size + 1) 9 1 _ k (strC ((m.statuses.l.take k).map encSt))) := Lib.hid (ownsRow_below HO.out b1)
      have B1 := Lib.hid b1
      clear b1 a0 a1 a2 a3 a4 a5 a6 a7 a8 a9 a10 a11
      go_wp2_with (at_builtin; refine wpList_append_own _ rfl _ _ 26 rfl (w.heap.size + 1) 9 i0 _ 1 16 Tryd.underlying26 HI.out HZ0.out HZ1.out HZ2.out rfl (by decide) _ _ _ rfl (HO1.out.alloc _) ⟨w1.heap.size, 0, none⟩ 1 1 [.string ⟨(encSt x).toArray⟩] rfl rfl (cell_new _ _ _ _ rfl) (by simp [Value.oneCell']) (by simp [maxLen]; omega) (by omega) (by simp; omega) ?_)
      intro v' w4 hown' hgrow _
      have HO2 : Hid (w4.ownsRow (w.heap.size + 1) 9 1 v' (k + 1) (strC ((m.statuses.l.take (k + 1)).map encSt))) := Lib.hid (by
        rw [List.take_succ_eq_append_getElem hlt, List.map_append, List.map_cons, List.map_nil, HX.out, strC_snoc]
        simpa only [List.map_take] using hown')
      have HG2 := Lib.hid hgrow
      clear hown' hgrow
      go_wp2_with fail
      go_roundw
      case rel =>
        exact ⟨k + 1, by go_num, by omega, HO2.out, bx_grown (bx_alloc (bx_on HB.out B1.out) _) HG2.out (fun b hb => (HO1.out.lt b hb).1)⟩
      case measure => simp [intOf]; omega
    · obtain rfl : k = m.statuses.l.length := by omega
      have HL2 : Hid (wr.ownsRow (w.heap.size + 1) 9 1 _ m.statuses.l.length (strC (m.statuses.l.map encSt))) := Lib.hid (by have := HO.out; rwa [List.take_length] at this)
      obtain ⟨A', c', hv⟩ := ownsRow_form HL2.out
      subst hv
      have HRs := Lib.hid (Rd.own HL2.out)
      clear HO HL2
      obtain ⟨w2, hw2⟩ : ∃ w2 : World, w2 = wr := ⟨_, rfl⟩
      subst hw2
      have HBx := HB
      clear HB hk hlt
      go_wp2_with fail
      go_loopw [4, 6] (fun o i wr => ∃ k : Nat, i = .int .i64 k ∧ k ≤ m.entries.l.length ∧ wr.ownsRow w2.heap.size 9 1 o k (strC ((m.entries.l.take k).map encDe)) ∧ Below w2.heap.size w2 wr) (fun _ i _ => m.entries.l.length - (intOf i).toNat)
      case atStart => exact ⟨0, rfl, by omega, by simpa [strC] using World.ownsRow_nil _ _ _ _, Below.refl _ _⟩
      case round =>
        clear b0 b1 b2 b3 b4 b5 b6 b7 b8 b9 b10 b11 b12 b13 b14 b15 b16 b17 b18 b19 b20 HLw
        obtain ⟨k, rfl, hk, hown, hb⟩ := hrel
        have HO := Lib.hid hown
        have HB := Lib.hid hb
        have hw := bx_on HBx.out hb
        have HLw := Lib.hid (bx_low hw)
        have hge2 := hb.size
        obtain ⟨b0, b1, b2, b3, b4, b5, b6, b7, b8, b9, b10, b11, b12, b13, b14, b15, b16, b17, b18, b19, b20⟩ := HC5.out wr hw
        clear hown hb hw
        by_cases hlt : k < m.entries.l.length
        · have i0' : (0 : Int) ≤ (k : Int) := by omega
          have i1 : (k : Int) < (m.entries.l.length : Int) := by omega
          obtain ⟨g, o, hxa, hg, hcc⟩ := HRDe.out.at deC_len'' (by omega) hlt (w' := w)
          obtain ⟨x, hx⟩ : ∃ x, x = m.entries.l[k] := ⟨_, rfl⟩
          have HX := Lib.hid hx.symm
          have HM := Lib.hid (hx ▸ List.getElem_mem hlt : x ∈ m.entries.l)
          clear hx
          rw [hxa] at b14
          have HXA := Lib.hid hxa
          clear hxa
          have a0 : wr.cell? ⟨g, o + k * 3, none⟩ = some (.int .i64 x.view) := by simpa using hcc wr HLw.out 0 _ (by rw [HX.out]; rfl)
          have a1 : wr.cell? ⟨g, o + k * 3 + 1, none⟩ = some (.string ⟨x.value.toArray⟩) := hcc wr HLw.out 1 _ (by rw [HX.out]; rfl)
          have a2 : wr.cell? ⟨g, o + k * 3 + 2, none⟩ = some (.slice x.cert.a x.cert.l.length x.cert.c) := hcc wr HLw.out 2 _ (by rw [HX.out]; rfl)
          clear hcc
          go_wp2_with fail
          refine ((HEDe.out x HM.out _ HLw.out)).mono ?_
          rintro e w1 ⟨rfl, b1⟩
          have hz : wr.heap.size ≤ w1.heap.size := b1.size
          have HO1 : Hid (w1.ownsRow (w2.heap.size) 9 1 _ k (strC ((m.entries.l.take k).map encDe))) := Lib.hid (ownsRow_below HO.out b1)
          have B1 := Lib.hid b1
          clear b1 a0 a1 a2
          go_wp2_with (at_builtin; refine wpList_append_own _ rfl _ _ 26 rfl (w2.heap.size) 9 i0 _ 1 16 Tryd.underlying26 HI.out HZ0.out HZ1.out HZ2.out rfl (by decide) _ _ _ rfl (HO1.out.alloc _) ⟨w1.heap.size, 0, none⟩ 1 1 [.string ⟨(encDe x).toArray⟩] rfl rfl (cell_new _ _ _ _ rfl) (by simp [Value.oneCell']) (by simp [maxLen]; omega) (by omega) (by simp; omega) ?_)
          intro v' w4 hown' hgrow _
          have HO2 : Hid (w4.ownsRow (w2.heap.size) 9 1 v' (k + 1) (strC ((m.entries.l.take (k + 1)).map encDe))) := Lib.hid (by
            rw [List.take_succ_eq_append_getElem hlt, List.map_append, List.map_cons, List.map_nil, HX.out, strC_snoc]
            simpa only [List.map_take] using hown')
          have HG2 := Lib.hid hgrow
          clear hown' hgrow
          go_wp2_with fail
          go_roundw
          case rel =>
            exact ⟨k + 1, by go_num, by omega, HO2.out, below_grown (Below.alloc (bon HB.out B1.out) (by omega) _) (by simp; omega) HG2.out (fun b hb => (HO1.out.lt b hb).1)⟩
          case measure => simp [intOf]; omega
        · obtain rfl : k = m.entries.l.length := by omega
          have HL2 : Hid (wr.ownsRow w2.heap.size 9 1 _ m.entries.l.length (strC (m.entries.l.map encDe))) := Lib.hid (by have := HO.out; rwa [List.take_length] at this)
          obtain ⟨A2, c2, hv⟩ := ownsRow_form HL2.out
          subst hv
          have HRe := Lib.hid (Rd.own HL2.out)
          have HRt := Lib.hid (Rd.below HRs.out HB.out)
          clear HO HL2 hk hlt
          have HC6 : Hid (∀ w1, Below wr.heap.size wr w1 → Below wr.heap.size wr w1 ∧ w1.cell? ⟨w.heap.size, 0, none⟩ = some (.int .i64 m.kind) ∧ w1.cell? ⟨w.heap.size, 1, none⟩ = some (.int .i64 m.src) ∧ w1.cell? ⟨w.heap.size, 2, none⟩ = some (.int .i64 m.dst) ∧ w1.cell? ⟨w.heap.size, 3, none⟩ = some (.int .i64 m.view) ∧ w1.cell? ⟨w.heap.size, 4, none⟩ = some (.int .i64 m.slot) ∧ w1.cell? ⟨w.heap.size, 5, none⟩ = some (.string ⟨m.value.toArray⟩) ∧ w1.cell? ⟨w.heap.size, 6, none⟩ = some (.int .i64 m.till) ∧ w1.cell? ⟨w.heap.size, 7, none⟩ = some (.int .i64 m.signed.server) ∧ w1.cell? ⟨w.heap.size, 8, none⟩ = some (.int .i64 m.signed.kind) ∧ w1.cell? ⟨w.heap.size, 9, none⟩ = some (.int .i64 m.signed.view) ∧ w1.cell? ⟨w.heap.size, 10, none⟩ = some (.int .i64 m.signed.slot) ∧ w1.cell? ⟨w.heap.size, 11, none⟩ = some (.string ⟨m.signed.digest.toArray⟩) ∧ w1.cell? ⟨w.heap.size, 12, none⟩ = some (.string ⟨m.signed.sig.toArray⟩)) :=
            Lib.hid (fun w1 hb => ⟨hb, (hb.cell (p := ⟨w.heap.size, 0, none⟩) (by show w.heap.size < _; omega)).trans b0, (hb.cell (p := ⟨w.heap.size, 1, none⟩) (by show w.heap.size < _; omega)).trans b1, (hb.cell (p := ⟨w.heap.size, 2, none⟩) (by show w.heap.size < _; omega)).trans b2, (hb.cell (p := ⟨w.heap.size, 3, none⟩) (by show w.heap.size < _; omega)).trans b3, (hb.cell (p := ⟨w.heap.size, 4, none⟩) (by show w.heap.size < _; omega)).trans b4, (hb.cell (p := ⟨w.heap.size, 5, none⟩) (by show w.heap.size < _; omega)).trans b5, (hb.cell (p := ⟨w.heap.size, 6, none⟩) (by show w.heap.size < _; omega)).trans b6, (hb.cell (p := ⟨w.heap.size, 7, none⟩) (by show w.heap.size < _; omega)).trans b7, (hb.cell (p := ⟨w.heap.size, 8, none⟩) (by show w.heap.size < _; omega)).trans b8, (hb.cell (p := ⟨w.heap.size, 9, none⟩) (by show w.heap.size < _; omega)).trans b9, (hb.cell (p := ⟨w.heap.size, 10, none⟩) (by show w.heap.size < _; omega)).trans b10, (hb.cell (p := ⟨w.heap.size, 11, none⟩) (by show w.heap.size < _; omega)).trans b11, (hb.cell (p := ⟨w.heap.size, 12, none⟩) (by show w.heap.size < _; omega)).trans b12⟩)
          have HC7 : Hid (∀ w1, Below wr.heap.size wr w1 → Below wr.heap.size wr w1 ∧ w1.cell? ⟨w.heap.size, 15, none⟩ = some (.int .i64 m.snapshot.slot) ∧ w1.cell? ⟨w.heap.size, 16, none⟩ = some (.string ⟨m.snapshot.root.toArray⟩) ∧ w1.cell? ⟨w.heap.size, 17, none⟩ = some (.slice m.snapshot.chunks.a m.snapshot.chunks.l.length m.snapshot.chunks.c) ∧ w1.cell? ⟨w.heap.size, 18, none⟩ = some (.slice m.snapshot.proof.a m.snapshot.proof.l.length m.snapshot.proof.c) ∧ w1.cell? ⟨w.heap.size, 19, none⟩ = some (.slice m.snapshot.chain.a m.snapshot.chain.l.length m.snapshot.chain.c) ∧ w1.cell? ⟨w.heap.size, 20, none⟩ = some (.slice m.texts.a m.texts.l.length m.texts.c)) :=
            Lib.hid (fun w1 hb => ⟨hb, (hb.cell (p := ⟨w.heap.size, 15, none⟩) (by show w.heap.size < _; omega)).trans b15, (hb.cell (p := ⟨w.heap.size, 16, none⟩) (by show w.heap.size < _; omega)).trans b16, (hb.cell (p := ⟨w.heap.size, 17, none⟩) (by show w.heap.size < _; omega)).trans b17, (hb.cell (p := ⟨w.heap.size, 18, none⟩) (by show w.heap.size < _; omega)).trans b18, (hb.cell (p := ⟨w.heap.size, 19, none⟩) (by show w.heap.size < _; omega)).trans b19, (hb.cell (p := ⟨w.heap.size, 20, none⟩) (by show w.heap.size < _; omega)).trans b20⟩)
          have HLB : Hid (∀ w1, Below wr.heap.size wr w1 → Below w.heap.size w w1) := Lib.hid (fun w1 hb => HLw.out.trans (hb.mono (by omega)))
          have HX0 : Hid (∀ (w1 : World) (g : Nat) (R : Prop), (Below wr.heap.size wr ((w1.alloc (.cells #[.int .i64 m.kind, .int .i64 m.src, .int .i64 m.dst, .int .i64 m.view, .int .i64 m.slot, .int .i64 m.till] 3)).drew) ∧ R) → w1.heap.size = g → Calls Tryd.prog 38 #[.slice (some ⟨g, 0, none⟩) 6 6] ((w1.alloc (.cells #[.int .i64 m.kind, .int .i64 m.src, .int .i64 m.dst, .int .i64 m.view, .int .i64 m.slot, .int .i64 m.till] 3)).drew) (GivesB wr (putInts [m.kind, m.src, m.dst, m.view, m.slot, m.till]))) :=
            Lib.hid (fun w1 g _ hb hg => givesB_int [m.kind, m.src, m.dst, m.view, m.slot, m.till] (fun A c W hr => refPutInts_any A c _ W hr (by simp) (by simpa [List.forall_mem_cons] using hI)) hb.1 hg)
          have HX1 : Hid (∀ (t : List UInt8) (w1 : World) (R : Prop), t.length ≤ 70368744177664 → (Below wr.heap.size wr w1 ∧ R) → Calls Tryd.prog 39 #[.string ⟨t.toArray⟩] w1 (GivesB wr (putStr t))) :=
            Lib.hid (fun t w1 _ ht hb => givesB_of hb.1 (refPutString_any t ht w1))
          have HX2 : Hid (∀ (w1 : World) (R : Prop), (Below wr.heap.size wr w1 ∧ R) → Calls Tryd.prog 40 #[.agg #[.int .i64 m.signed.server, .int .i64 m.signed.kind, .int .i64 m.signed.view, .int .i64 m.signed.slot, .string ⟨m.signed.digest.toArray⟩, .string ⟨m.signed.sig.toArray⟩]] w1 (GivesB wr (encSg m.signed))) :=
            Lib.hid (fun w1 _ hb => givesB_of hb.1 (HG.out w1))
          have HX3 : Hid (∀ (w1 : World) (R : Prop), (Below wr.heap.size wr w1 ∧ R) → Calls Tryd.prog 41 #[.slice A' m.statuses.l.length c'] w1 (GivesB wr (putList (m.statuses.l.map encSt)))) :=
            Lib.hid (fun w1 _ hb => givesB_of hb.1 (HS.out w1 _ _ (HRt.out.below hb.1)))
          have HX4 : Hid (∀ (w1 : World) (R : Prop), (Below wr.heap.size wr w1 ∧ R) → Calls Tryd.prog 41 #[.slice A2 m.entries.l.length c2] w1 (GivesB wr (putList (m.entries.l.map encDe)))) :=
            Lib.hid (fun w1 _ hb => givesB_of hb.1 (HD.out w1 _ _ (HRe.out.below hb.1)))
          have HX5 : Hid (∀ (w1 : World) (R : Prop), (Below wr.heap.size wr w1 ∧ R) → Calls Tryd.prog 41 #[.slice m.texts.a m.texts.l.length m.texts.c] w1 (GivesB wr (putList m.texts.l))) :=
            Lib.hid (fun w1 _ hb => givesB_of hb.1 (HT.out w1 (HLB.out _ hb.1)))
          have HX6 : Hid (∀ (w1 : World) (R : Prop), (Below wr.heap.size wr w1 ∧ R) → Calls Tryd.prog 42 #[.agg #[.int .i64 m.snapshot.slot, .string ⟨m.snapshot.root.toArray⟩, .slice m.snapshot.chunks.a m.snapshot.chunks.l.length m.snapshot.chunks.c, .slice m.snapshot.proof.a m.snapshot.proof.l.length m.snapshot.proof.c, .slice m.snapshot.chain.a m.snapshot.chain.l.length m.snapshot.chain.c]] w1 (GivesB wr (encSn m.snapshot))) :=
            Lib.hid (fun w1 _ hb => givesB_of hb.1 (HN.out w1 (HLB.out _ hb.1)))
          clear HESt HEDe HRSt HRDe HRs
          go_wp2_with fail
          go_region_held3 (fun w1 => Below wr.heap.size wr w1 ∧ w1.cell? ⟨w.heap.size, 0, none⟩ = some (.int .i64 m.kind) ∧ w1.cell? ⟨w.heap.size, 1, none⟩ = some (.int .i64 m.src) ∧ w1.cell? ⟨w.heap.size, 2, none⟩ = some (.int .i64 m.dst) ∧ w1.cell? ⟨w.heap.size, 3, none⟩ = some (.int .i64 m.view) ∧ w1.cell? ⟨w.heap.size, 4, none⟩ = some (.int .i64 m.slot) ∧ w1.cell? ⟨w.heap.size, 5, none⟩ = some (.string ⟨m.value.toArray⟩) ∧ w1.cell? ⟨w.heap.size, 6, none⟩ = some (.int .i64 m.till) ∧ w1.cell? ⟨w.heap.size, 7, none⟩ = some (.int .i64 m.signed.server) ∧ w1.cell? ⟨w.heap.size, 8, none⟩ = some (.int .i64 m.signed.kind) ∧ w1.cell? ⟨w.heap.size, 9, none⟩ = some (.int .i64 m.signed.view) ∧ w1.cell? ⟨w.heap.size, 10, none⟩ = some (.int .i64 m.signed.slot) ∧ w1.cell? ⟨w.heap.size, 11, none⟩ = some (.string ⟨m.signed.digest.toArray⟩) ∧ w1.cell? ⟨w.heap.size, 12, none⟩ = some (.string ⟨m.signed.sig.toArray⟩))
            (first | exact HC6.out _ (Below.refl _ _).drew | exact HC6.out _ (Below.alloc (‹Below _ _ _ ∧ _›).1 (Below.size (‹Below _ _ _ ∧ _›).1) _) | exact HC6.out _ ‹Below wr.heap.size wr _›)
            (first
              | (go_at_call 38; refine (HX0.out _ _ _ (by assumption) (by simp)).mono ?_; rintro e w5 ⟨rfl, d5⟩)
              | (go_at_call 39; refine (HX1.out _ _ _ (by omega) (by assumption)).mono ?_; rintro e w6 ⟨rfl, d6⟩)
              | (go_at_call 40; refine (HX2.out _ _ (by assumption)).mono ?_; rintro e w7 ⟨rfl, d7⟩))
          all_goals
            clear HC6 HX0 HX2
            go_wp2_with fail
            go_region_held3 (fun w1 => Below wr.heap.size wr w1 ∧ w1.cell? ⟨w.heap.size, 15, none⟩ = some (.int .i64 m.snapshot.slot) ∧ w1.cell? ⟨w.heap.size, 16, none⟩ = some (.string ⟨m.snapshot.root.toArray⟩) ∧ w1.cell? ⟨w.heap.size, 17, none⟩ = some (.slice m.snapshot.chunks.a m.snapshot.chunks.l.length m.snapshot.chunks.c) ∧ w1.cell? ⟨w.heap.size, 18, none⟩ = some (.slice m.snapshot.proof.a m.snapshot.proof.l.length m.snapshot.proof.c) ∧ w1.cell? ⟨w.heap.size, 19, none⟩ = some (.slice m.snapshot.chain.a m.snapshot.chain.l.length m.snapshot.chain.c) ∧ w1.cell? ⟨w.heap.size, 20, none⟩ = some (.slice m.texts.a m.texts.l.length m.texts.c))
              (first | exact HC7.out _ (Below.drew ‹Below wr.heap.size wr w6›) | exact HC7.out _ ‹Below wr.heap.size wr _›)
              (first
                | (go_at_call_of 41 (Value.slice A' m.statuses.l.length c'); refine (HX3.out _ _ (by assumption)).mono ?_; rintro e x1 ⟨rfl, f1⟩)
                | (go_at_call_of 41 (Value.slice A2 m.entries.l.length c2); refine (HX4.out _ _ (by assumption)).mono ?_; rintro e x2 ⟨rfl, f2⟩)
                | (go_at_call 41; refine (HX5.out _ _ (by assumption)).mono ?_; rintro e x3 ⟨rfl, f3⟩)
                | (go_at_call 42; refine (HX6.out _ _ (by assumption)).mono ?_; rintro e x4 ⟨rfl, f4⟩)
                | (go_at_call 39; refine (HX1.out _ _ _ (by omega) (by assumption)).mono ?_; rintro e x5 ⟨rfl, f5⟩))
            all_goals
              go_wp2_with fail
              go_ret
              exact ret_st (by rfl) (HLB.out _ ‹_›)
end Go.Proofs.YtoehakekjlebdaaDoor
