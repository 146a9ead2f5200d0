/- The contract of the reference's Signatures. -/
import Derived.Test.YtoehakekjlebdaaDoorSgsB
import Derived.Test.YtoehakekjlebdaaDoorValB
import Derived.Deep.Cut
import Derived.Deep.CutRange
namespace Go.Proofs.YtoehakekjlebdaaDoor
open Go.RowKit

theorem OwnSg.base {base b' : Nat} {w : World} {A : Option Addr} {c : Nat} {l : List Sg} (h : OwnSg base w A c l) (hb : b' ≤ base) : OwnSg b' w A c l := ownsRow_base h hb
set_option maxRecDepth 100000 in
set_option maxHeartbeats 16000000 in
theorem refSigs_any (m : Ms) (w : World) (hok : m.ok w) (hs : m.sz ≤ 16777216) : Calls Tryd.prog 15 #[.agg (msC m).toArray] w (RetSgs (sgsMs m) w) := by
  have HN1 : Hid (∀ k, (sgsHead m ++ (m.statuses.l.take k).flatMap stSgs).length ≤ 4000000) := Lib.hid (fun k => by
    have h1 := head_le m
    have h2 := flat_le stSgs St.sz st_le m.statuses.l k
    rw [List.length_append]; unfold Ms.sz at hs; omega)
  have HN2 : Hid (∀ k, (sgsStat m ++ (m.entries.l.take k).flatMap (fun d => d.cert.l)).length ≤ 6500000) := Lib.hid (fun k => by
    have h1 := HN1.out m.statuses.l.length
    rw [List.take_length] at h1
    have h2 := flat_le (fun d => d.cert.l) De.sz de_le m.entries.l k
    unfold sgsStat
    rw [List.length_append]; unfold Ms.sz at hs; omega)
  have HN3 : Hid ((sgsEnt m).length + m.snapshot.proof.l.length ≤ 9000000) := Lib.hid (by
    have h1 := HN2.out m.entries.l.length
    rw [List.take_length] at h1
    have h2 := sum_ge Sg.sz m.snapshot.proof.l 7 Sg.sz_ge
    unfold sgsEnt
    unfold Ms.sz Sn.sz at hs; omega)
  have HN4 : Hid (∀ k, (sgsProof m ++ (m.snapshot.chain.l.take k).flatMap (fun h => h.entry.cert.l)).length ≤ 12000000) := Lib.hid (fun k => by
    have h1 := HN3.out
    have h2 := flat_le (fun h => h.entry.cert.l) Ho.sz ho_le m.snapshot.chain.l k
    unfold sgsProof
    rw [List.length_append, List.length_append]; unfold Ms.sz Sn.sz at hs; omega)
  have hsl : m.statuses.l.length ≤ 1099511627776 := by have := sum_ge St.sz m.statuses.l 14 St.sz_ge; unfold Ms.sz at hs; omega
  have hel : m.entries.l.length ≤ 1099511627776 := by have := sum_ge De.sz m.entries.l 4 De.sz_ge; unfold Ms.sz at hs; omega
  have hcl : m.snapshot.chain.l.length ≤ 1099511627776 := by have := sum_ge Ho.sz m.snapshot.chain.l 6 Ho.sz_ge; unfold Ms.sz Sn.sz at hs; omega
  have HRSt : Hid (Rd w 12 m.statuses.a m.statuses.l.length (m.statuses.l.flatMap stC)) := Lib.hid hok.2.2.1.1
  have HRDe : Hid (Rd w 3 m.entries.a m.entries.l.length (m.entries.l.flatMap deC)) := Lib.hid hok.2.2.2.1.1
  have HRHo : Hid (Rd w 4 m.snapshot.chain.a m.snapshot.chain.l.length (m.snapshot.chain.l.flatMap hoC)) := Lib.hid hok.2.2.2.2.1.2.2.2.1
  have HKSt : Hid (∀ x ∈ m.statuses.l, Rd w 6 x.cert.a x.cert.l.length (x.cert.l.flatMap sgC)) := Lib.hid (fun x hx => (hok.2.2.1.2 x hx).2.1)
  have HKDe : Hid (∀ x ∈ m.entries.l, Rd w 6 x.cert.a x.cert.l.length (x.cert.l.flatMap sgC)) := Lib.hid (fun x hx => (hok.2.2.2.1.2 x hx).2.1)
  have HKPr : Hid (Rd w 6 m.snapshot.proof.a m.snapshot.proof.l.length (m.snapshot.proof.l.flatMap sgC)) := Lib.hid hok.2.2.2.2.1.2.2.1.1
  have HKHo : Hid (∀ x ∈ m.snapshot.chain.l, Rd w 6 x.entry.cert.a x.entry.cert.l.length (x.entry.cert.l.flatMap sgC)) := Lib.hid (fun x hx => (hok.2.2.2.2.1.2.2.2.2 x hx).2.2.1)
  have HG : Hid (∀ W, Bx w (msC m) 32 W → ∀ j v, (msC m)[j]? = some v → W.cell? ⟨w.heap.size, j, none⟩ = some v) := Lib.hid (fun W hb j v hv => bx_cell hb j v hv)
  have HB0 := Lib.hid (bx_new w (msC m) 32)
  have hne := run_ne_sg m.signed
  clear hok hs
  go_enter Tryd.func15, Tryd.ntmps15
  go_upto_region 1 with fail
  obtain ⟨wb, hwb⟩ : ∃ wb, wb = w.alloc (.cells (msC m).toArray 32) := ⟨_, rfl⟩
  rw [← hwb]
  have HBb : Hid (Bx w (msC m) 32 wb) := Lib.hid (by rw [hwb]; exact HB0.out)
  have HBs : Hid (w.heap.size + 1 = wb.heap.size) := Lib.hid (by rw [hwb]; simp)
  clear hwb HB0
  have c7 : wb.cell? ⟨w.heap.size, 7, none⟩ = some (.int .i64 m.signed.server) := HG.out wb HBb.out 7 _ rfl
  have c8 : wb.cell? ⟨w.heap.size, 8, none⟩ = some (.int .i64 m.signed.kind) := HG.out wb HBb.out 8 _ rfl
  have c9 : wb.cell? ⟨w.heap.size, 9, none⟩ = some (.int .i64 m.signed.view) := HG.out wb HBb.out 9 _ rfl
  have c10 : wb.cell? ⟨w.heap.size, 10, none⟩ = some (.int .i64 m.signed.slot) := HG.out wb HBb.out 10 _ rfl
  have c11 : wb.cell? ⟨w.heap.size, 11, none⟩ = some (.string ⟨m.signed.digest.toArray⟩) := HG.out wb HBb.out 11 _ rfl
  have c12 : wb.cell? ⟨w.heap.size, 12, none⟩ = some (.string ⟨m.signed.sig.toArray⟩) := HG.out wb HBb.out 12 _ rfl
  go_upto_if 10 with fail
  go_cut [3] from 7 to 15 (fun t wx => ∃ (A : Option Addr) (c : Nat), t = .slice A (sgsHead m).length c ∧ OwnSg (w.heap.size + 1) wx A c (sgsHead m) ∧ Bx w (msC m) 32 wx)
  case first =>
    cases hz : sgZero m.signed with
    | true =>
      have HH : Hid (sgsHead m = []) := Lib.hid (by unfold sgsHead; rw [hz]; rfl)
      clear hne c7 c8 c9 c10 c11 c12
      go_wp2_with fail
      go_meet
      case rel => exact ⟨none, 0, by rw [HH.out]; rfl, by rw [HH.out]; exact OwnSg.nil _ _, HBb.out⟩
    | false =>
      have HH : Hid (sgsHead m = [m.signed]) := Lib.hid (by unfold sgsHead; rw [hz]; rfl)
      have HRn : Hid (Rd (wb.alloc (.cells (sgC m.signed).toArray 23)) 6 (some ⟨wb.heap.size, 0, none⟩) [m.signed].length ([m.signed].flatMap sgC)) := Lib.hid (by have h9 := rd_new wb 6 1 (sgC m.signed) 23 rfl; simpa using h9)
      have HBa := Lib.hid (bx_alloc HBb.out (.cells (sgC m.signed).toArray 23))
      go_wp2_with (at_builtin; refine wpList_app_sg rfl _ _ rfl (w.heap.size + 1) (OwnSg.nil _ _) rfl rfl HRn.out rfl rfl (by simp) (by have h9 := HBs.out; simp; omega) ?_)
      intro A4 c4 w4 ho4 hb4
      have HO4 := Lib.hid ho4
      have HB4 := Lib.hid (Below.trans HBa.out hb4)
      clear ho4 hb4
      go_wp2_with fail
      go_meet
      case rel => exact ⟨A4, c4, by rw [HH.out]; rfl, by rw [HH.out]; exact HO4.out, HB4.out⟩
  case rest =>
    obtain ⟨A0, c0, rfl, ho0, hb0⟩ := hcut
    have HO0 := Lib.hid ho0
    have HX0 := Lib.hid hb0
    clear ho0 hb0 hne c7 c8 c9 c10 c11 c12 HBb HBs wb
    go_upto_region 4 with fail
    go_wp2_with fail
    go_loopw [3, 4] (fun o i wr => ∃ (k : Nat) (A : Option Addr) (c : Nat), i = .int .i64 k ∧ k ≤ m.statuses.l.length ∧ o = .slice A (sgsHead m ++ (m.statuses.l.take k).flatMap stSgs).length c ∧ OwnSg (w.heap.size + 1) wr A c (sgsHead m ++ (m.statuses.l.take k).flatMap stSgs) ∧ Bx w (msC m) 32 wr) (fun _ i _ => m.statuses.l.length - (intOf i).toNat)
    case atStart => exact ⟨0, A0, c0, rfl, by omega, by simp, by simpa using HO0.out, HX0.out⟩
    case round =>
      obtain ⟨k, A, c, rfl, hk, rfl, ho, hb⟩ := hrel
      have HO := Lib.hid ho
      have HX := Lib.hid hb
      clear ho hb
      have hls := HN1.out k
      have hsz := bx_size HX.out
      have c13 : wr.cell? ⟨w.heap.size, 13, none⟩ = some (.slice m.statuses.a m.statuses.l.length m.statuses.c) := HG.out wr HX.out 13 _ rfl
      by_cases hlt : k < m.statuses.l.length
      · have i0' : (0 : Int) ≤ (k : Int) := by omega
        have i1 : (k : Int) < (m.statuses.l.length : Int) := by omega
        obtain ⟨b, off, hxa, hg2, hcc⟩ := HRSt.out.at (fun _ => rfl) (by omega) hlt (w' := w)
        have HXA := Lib.hid hxa
        have hrun : ∀ w', Sem.run Tryd.prog (Instr.indexAt 24 (.slice m.statuses.a m.statuses.l.length m.statuses.c) (.int .i64 k)) w' = .ok (Value.pointer (some ⟨b, off + k * 12, none⟩)) w' := fun w' => by
          rw [HXA.out]; go_simp
        clear hxa
        have hls2 := HN1.out (k + 1)
        have HS : Hid (sgsHead m ++ (m.statuses.l.take (k + 1)).flatMap stSgs = (sgsHead m ++ (m.statuses.l.take k).flatMap stSgs ++ [m.statuses.l[k].signed]) ++ m.statuses.l[k].cert.l) := Lib.hid (by rw [flat_take stSgs _ _ hlt, show stSgs m.statuses.l[k] = [m.statuses.l[k].signed] ++ m.statuses.l[k].cert.l from rfl]; simp only [List.append_assoc])
        rw [HS.out, List.length_append, List.length_append, List.length_singleton] at hls2
        obtain ⟨x, hx⟩ : ∃ x, x = m.statuses.l[k] := ⟨_, rfl⟩
        have HXX := Lib.hid hx.symm
        rw [← hx] at hls2
        have HKx := Lib.hid (HKSt.out x (hx ▸ List.getElem_mem hlt))
        clear hx
        have HCC : Hid (∀ W, Bx w (msC m) 32 W → ∀ j v, (stC x)[j]? = some v → W.cell? ⟨b, off + k * 12 + j, none⟩ = some v) := Lib.hid (fun W hb j v hv => hcc W (bx_low hb) j v (by rw [HXX.out]; exact hv))
        clear hcc hg2
        obtain ⟨L, hL⟩ : ∃ L, L = sgsHead m ++ (m.statuses.l.take k).flatMap stSgs := ⟨_, rfl⟩
        rw [← hL] at hls hls2 HO ⊢
        have HLe := Lib.hid hL
        clear hL
        have a5 : wr.cell? ⟨b, off + k * 12 + 5, none⟩ = some (.slice x.cert.a x.cert.l.length x.cert.c) := HCC.out wr HX.out 5 _ rfl
        have a6 : wr.cell? ⟨b, off + k * 12 + 6, none⟩ = some (.int .i64 x.signed.server) := HCC.out wr HX.out 6 _ rfl
        have a7 : wr.cell? ⟨b, off + k * 12 + 7, none⟩ = some (.int .i64 x.signed.kind) := HCC.out wr HX.out 7 _ rfl
        have a8 : wr.cell? ⟨b, off + k * 12 + 8, none⟩ = some (.int .i64 x.signed.view) := HCC.out wr HX.out 8 _ rfl
        have a9 : wr.cell? ⟨b, off + k * 12 + 9, none⟩ = some (.int .i64 x.signed.slot) := HCC.out wr HX.out 9 _ rfl
        have a10 : wr.cell? ⟨b, off + k * 12 + 10, none⟩ = some (.string ⟨x.signed.digest.toArray⟩) := HCC.out wr HX.out 10 _ rfl
        have a11 : wr.cell? ⟨b, off + k * 12 + 11, none⟩ = some (.string ⟨x.signed.sig.toArray⟩) := HCC.out wr HX.out 11 _ rfl
        have HRn : Hid (Rd (wr.alloc (.cells (sgC x.signed).toArray 23)) 6 (some ⟨wr.heap.size, 0, none⟩) [x.signed].length ([x.signed].flatMap sgC)) := Lib.hid (by have h9 := rd_new wr 6 1 (sgC x.signed) 23 rfl; simpa using h9)
        have HBa := Lib.hid (bx_alloc HX.out (.cells (sgC x.signed).toArray 23))
        have HOa := Lib.hid (HO.out.below (below_new wr (.cells (sgC x.signed).toArray 23)))
        go_wp2_with (at_builtin; refine wpList_app_sg rfl _ _ rfl (w.heap.size + 1) HOa.out rfl rfl HRn.out rfl rfl (by simp; omega) (by simp; omega) ?_)
        intro A4 c4 w4 ho4 hb4
        have HO4 := Lib.hid ho4
        have hb5 := Below.trans HBa.out hb4
        have HX4 : Hid (Bx w (msC m) 32 w4) := Lib.hid hb5
        clear ho4 hb4 hb5 a5 a6 a7 a8 a9 a10 a11 c13
        have hsz4 := bx_size HX4.out
        have c13 : w4.cell? ⟨w.heap.size, 13, none⟩ = some (.slice m.statuses.a m.statuses.l.length m.statuses.c) := HG.out w4 HX4.out 13 _ rfl
        have a5 : w4.cell? ⟨b, off + k * 12 + 5, none⟩ = some (.slice x.cert.a x.cert.l.length x.cert.c) := HCC.out w4 HX4.out 5 _ rfl
        have HKw := Lib.hid (Rd.below HKx.out (bx_low HX4.out))
        go_wp2_with (at_builtin; refine wpList_app_sg rfl _ _ rfl (w.heap.size + 1) HO4.out rfl (by simp) HKw.out rfl rfl (by rw [List.length_append]; simp; omega) hsz4 ?_)
        intro A5 c5 w5 ho5 hb5
        have HO5 := Lib.hid ho5
        have HX5 : Hid (Bx w (msC m) 32 w5) := Lib.hid (Below.trans HX4.out hb5)
        clear ho5 hb5 a5 c13
        go_wp2_with fail
        go_roundw
        case rel =>
          have h9 := HS.out
          rw [HXX.out, ← HLe.out] at h9
          exact ⟨k + 1, A5, c5, by go_num, by omega, by rw [h9]; simp; omega, by rw [h9]; simpa using HO5.out, HX5.out⟩
        case measure => simp [intOf]; omega
      · obtain rfl : k = m.statuses.l.length := by omega
        have HS : Hid (sgsHead m ++ (m.statuses.l.take m.statuses.l.length).flatMap stSgs = sgsStat m) := Lib.hid (by rw [List.take_length]; rfl)
        rw [HS.out] at HO hls ⊢
        clear HS
        clear hlt hk hsz
        go_wp2_with fail
        clear c13
        go_loopw [3, 5] (fun o i wr => ∃ (k : Nat) (A : Option Addr) (c : Nat), i = .int .i64 k ∧ k ≤ m.entries.l.length ∧ o = .slice A (sgsStat m ++ (m.entries.l.take k).flatMap (fun d => d.cert.l)).length c ∧ OwnSg (w.heap.size + 1) wr A c (sgsStat m ++ (m.entries.l.take k).flatMap (fun d => d.cert.l)) ∧ Bx w (msC m) 32 wr) (fun _ i _ => m.entries.l.length - (intOf i).toNat)
        case atStart => exact ⟨0, A, c, rfl, by omega, by simp, by simpa using HO.out, HX.out⟩
        case round =>
          obtain ⟨k, A, c, rfl, hk, rfl, ho, hb⟩ := hrel
          have HO := Lib.hid ho
          have HX := Lib.hid hb
          clear ho hb
          have hls := HN2.out k
          have hsz := bx_size HX.out
          have c14 : wr.cell? ⟨w.heap.size, 14, none⟩ = some (.slice m.entries.a m.entries.l.length m.entries.c) := HG.out wr HX.out 14 _ rfl
          by_cases hlt : k < m.entries.l.length
          · have i0' : (0 : Int) ≤ (k : Int) := by omega
            have i1 : (k : Int) < (m.entries.l.length : Int) := by omega
            obtain ⟨b, off, hxa, hg2, hcc⟩ := HRDe.out.at (fun _ => rfl) (by omega) hlt (w' := w)
            have HXA := Lib.hid hxa
            have hrun : ∀ w', Sem.run Tryd.prog (Instr.indexAt 25 (.slice m.entries.a m.entries.l.length m.entries.c) (.int .i64 k)) w' = .ok (Value.pointer (some ⟨b, off + k * 3, none⟩)) w' := fun w' => by
              rw [HXA.out]; go_simp
            clear hxa
            have hls2 := HN2.out (k + 1)
            have HS : Hid (sgsStat m ++ (m.entries.l.take (k + 1)).flatMap (fun d => d.cert.l) = (sgsStat m ++ (m.entries.l.take k).flatMap (fun d => d.cert.l)) ++ m.entries.l[k].cert.l) := Lib.hid (by rw [flat_take (fun d => d.cert.l) _ _ hlt, List.append_assoc])
            rw [HS.out, List.length_append] at hls2
            obtain ⟨x, hx⟩ : ∃ x, x = m.entries.l[k] := ⟨_, rfl⟩
            have HXX := Lib.hid hx.symm
            rw [← hx] at hls2
            have HKx := Lib.hid (Rd.below (HKDe.out x (hx ▸ List.getElem_mem hlt)) (bx_low HX.out))
            clear hx
            have a2 : wr.cell? ⟨b, off + k * 3 + 2, none⟩ = some (.slice x.cert.a x.cert.l.length x.cert.c) := hcc wr (bx_low HX.out) 2 _ (by rw [HXX.out]; rfl)
            clear hcc hg2
            obtain ⟨L, hL⟩ : ∃ L, L = sgsStat m ++ (m.entries.l.take k).flatMap (fun d => d.cert.l) := ⟨_, rfl⟩
            rw [← hL] at hls hls2 HO ⊢
            have HLe := Lib.hid hL
            clear hL
            go_wp2_with (at_builtin; refine wpList_app_sg rfl _ _ rfl (w.heap.size + 1) HO.out rfl rfl HKx.out rfl rfl (by omega) hsz ?_)
            intro A5 c5 w5 ho5 hb5
            have HO5 := Lib.hid ho5
            have HX5 : Hid (Bx w (msC m) 32 w5) := Lib.hid (Below.trans HX.out hb5)
            clear ho5 hb5 a2 c14
            go_wp2_with fail
            go_roundw
            case rel =>
              have h9 := HS.out
              rw [HXX.out, ← HLe.out] at h9
              exact ⟨k + 1, A5, c5, by go_num, by omega, by rw [h9]; simp, by rw [h9]; exact HO5.out, HX5.out⟩
            case measure => simp [intOf]; omega
          · obtain rfl : k = m.entries.l.length := by omega
            have HS : Hid (sgsStat m ++ (m.entries.l.take m.entries.l.length).flatMap (fun d => d.cert.l) = sgsEnt m) := Lib.hid (by rw [List.take_length]; rfl)
            rw [HS.out] at HO hls ⊢
            clear HS hlt hk hsz
            have c18 : wr.cell? ⟨w.heap.size, 18, none⟩ = some (.slice m.snapshot.proof.a m.snapshot.proof.l.length m.snapshot.proof.c) := HG.out wr HX.out 18 _ rfl
            have hpl := HN3.out
            have HKp := Lib.hid (Rd.below HKPr.out (bx_low HX.out))
            have hsz := bx_size HX.out
            go_wp2_with (at_builtin; refine wpList_app_sg rfl _ _ rfl (w.heap.size + 1) HO.out rfl rfl HKp.out rfl rfl (by omega) hsz ?_)
            intro A6 c6 w6 ho6 hb6
            have HO6 : Hid (OwnSg (w.heap.size + 1) w6 A6 c6 (sgsProof m)) := Lib.hid ho6
            have HX6 : Hid (Bx w (msC m) 32 w6) := Lib.hid (Below.trans HX.out hb6)
            have hpe : (sgsEnt m).length + m.snapshot.proof.l.length = (sgsProof m).length := by unfold sgsProof; simp
            rw [hpe]
            clear ho6 hb6 hpe
            go_wp2_with fail
            clear c14 c18
            go_loopw [3, 6] (fun o i wr => ∃ (k : Nat) (A : Option Addr) (c : Nat), i = .int .i64 k ∧ k ≤ m.snapshot.chain.l.length ∧ o = .slice A (sgsProof m ++ (m.snapshot.chain.l.take k).flatMap (fun h => h.entry.cert.l)).length c ∧ OwnSg (w.heap.size + 1) wr A c (sgsProof m ++ (m.snapshot.chain.l.take k).flatMap (fun h => h.entry.cert.l)) ∧ Bx w (msC m) 32 wr) (fun _ i _ => m.snapshot.chain.l.length - (intOf i).toNat)
            case atStart => exact ⟨0, A6, c6, rfl, by omega, by simp, by simpa using HO6.out, HX6.out⟩
            case round =>
              obtain ⟨k, A, c, rfl, hk, rfl, ho, hb⟩ := hrel
              have HO := Lib.hid ho
              have HX := Lib.hid hb
              clear ho hb
              have hls := HN4.out k
              have hsz := bx_size HX.out
              have c19 : wr.cell? ⟨w.heap.size, 19, none⟩ = some (.slice m.snapshot.chain.a m.snapshot.chain.l.length m.snapshot.chain.c) := HG.out wr HX.out 19 _ rfl
              by_cases hlt : k < m.snapshot.chain.l.length
              · have i0' : (0 : Int) ≤ (k : Int) := by omega
                have i1 : (k : Int) < (m.snapshot.chain.l.length : Int) := by omega
                obtain ⟨b, off, hxa, hg2, hcc⟩ := HRHo.out.at (fun _ => rfl) (by omega) hlt (w' := w)
                have HXA := Lib.hid hxa
                have hrun : ∀ w', Sem.run Tryd.prog (Instr.indexAt 28 (.slice m.snapshot.chain.a m.snapshot.chain.l.length m.snapshot.chain.c) (.int .i64 k)) w' = .ok (Value.pointer (some ⟨b, off + k * 4, none⟩)) w' := fun w' => by
                  rw [HXA.out]; go_simp
                clear hxa
                have hls2 := HN4.out (k + 1)
                have HS : Hid (sgsProof m ++ (m.snapshot.chain.l.take (k + 1)).flatMap (fun h => h.entry.cert.l) = (sgsProof m ++ (m.snapshot.chain.l.take k).flatMap (fun h => h.entry.cert.l)) ++ m.snapshot.chain.l[k].entry.cert.l) := Lib.hid (by rw [flat_take (fun h => h.entry.cert.l) _ _ hlt, List.append_assoc])
                rw [HS.out, List.length_append] at hls2
                obtain ⟨x, hx⟩ : ∃ x, x = m.snapshot.chain.l[k] := ⟨_, rfl⟩
                have HXX := Lib.hid hx.symm
                rw [← hx] at hls2
                have HKx := Lib.hid (Rd.below (HKHo.out x (hx ▸ List.getElem_mem hlt)) (bx_low HX.out))
                clear hx
                have a3 : wr.cell? ⟨b, off + k * 4 + 3, none⟩ = some (.slice x.entry.cert.a x.entry.cert.l.length x.entry.cert.c) := hcc wr (bx_low HX.out) 3 _ (by rw [HXX.out]; rfl)
                clear hcc hg2
                obtain ⟨L, hL⟩ : ∃ L, L = sgsProof m ++ (m.snapshot.chain.l.take k).flatMap (fun h => h.entry.cert.l) := ⟨_, rfl⟩
                rw [← hL] at hls hls2 HO ⊢
                have HLe := Lib.hid hL
                clear hL
                go_wp2_with (at_builtin; refine wpList_app_sg rfl _ _ rfl (w.heap.size + 1) HO.out rfl rfl HKx.out rfl rfl (by omega) hsz ?_)
                intro A5 c5 w5 ho5 hb5
                have HO5 := Lib.hid ho5
                have HX5 : Hid (Bx w (msC m) 32 w5) := Lib.hid (Below.trans HX.out hb5)
                clear ho5 hb5 a3 c19
                go_wp2_with fail
                go_roundw
                case rel =>
                  have h9 := HS.out
                  rw [HXX.out, ← HLe.out] at h9
                  exact ⟨k + 1, A5, c5, by go_num, by omega, by rw [h9]; simp, by rw [h9]; exact HO5.out, HX5.out⟩
                case measure => simp [intOf]; omega
              · obtain rfl : k = m.snapshot.chain.l.length := by omega
                have HS : Hid (sgsProof m ++ (m.snapshot.chain.l.take m.snapshot.chain.l.length).flatMap (fun h => h.entry.cert.l) = sgsMs m) := Lib.hid (by rw [List.take_length]; rfl)
                rw [HS.out] at HO hls ⊢
                clear HS hlt hk hsz
                go_wp2_with fail
                go_ret
                exact ⟨A, c, rfl, OwnSg.base HO.out (by omega), bx_low HX.out⟩
end Go.Proofs.YtoehakekjlebdaaDoor
