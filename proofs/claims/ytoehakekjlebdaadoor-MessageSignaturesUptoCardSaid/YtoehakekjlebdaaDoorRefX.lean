/- The contracts of the reference's ranges. -/
import Derived.Test.YtoehakekjlebdaaDoorRefW
import Derived.Test.YtoehakekjlebdaaDoorValF
namespace Go.Proofs.YtoehakekjlebdaaDoor
open Go.RowKit

set_option maxRecDepth 100000 in
set_option maxHeartbeats 16000000 in
theorem ranges_any (m : Ms) (w : World) (hok : m.ok w) (hf : MsFew m) : Calls Tryd.prog 29 #[.agg (msC m).toArray] w (RetBool (rangesB m) w) := by
  have HOK := Lib.hid hok
  have hsl := hf.statuses
  have hel := hf.entries
  have hcl := hf.chain
  have HRSt : Hid (Rd w 12 m.statuses.a m.statuses.l.length (m.statuses.l.flatMap stC)) := Lib.hid hok.2.2.1.1
  have HRDe : Hid (Rd w 3 m.entries.a m.entries.l.length (m.entries.l.flatMap deC)) := Lib.hid hok.2.2.2.1.1
  have HRHo : Hid (Rd w 4 m.snapshot.chain.a m.snapshot.chain.l.length (m.snapshot.chain.l.flatMap hoC)) := Lib.hid hok.2.2.2.2.1.2.2.2.1
  have HG : Hid (∀ W, Bx w (msC m) 32 W → ∀ j v, (msC m)[j]? = some v → W.cell? ⟨w.heap.size, j, none⟩ = some v) := Lib.hid (fun W hb j v hv => bx_cell hb j v hv)
  have HNum := Lib.hid (fun n w' => refNumber_any n w')
  have HNoSt : Hid (m.statuses.l.all stRange = false → rangesB m = false) := Lib.hid (fun h => by unfold rangesB; rw [h]; rfl)
  have HNoDe : Hid (m.entries.l.all (fun d => num d.view) = false → rangesB m = false) := Lib.hid (fun h => by unfold rangesB; rw [h]; cases m.statuses.l.all stRange <;> rfl)
  have HNoHo : Hid (m.snapshot.chain.l.all hoRange = false → rangesB m = false) := Lib.hid (fun h => by unfold rangesB; rw [h]; cases m.statuses.l.all stRange <;> cases m.entries.l.all (fun d => num d.view) <;> rfl)
  have HB0 := Lib.hid (bx_new w (msC m) 32)
  clear hok hf
  go_enter Tryd.func29, Tryd.ntmps29
  go_wp2_with fail
  go_loopw [3] (fun i wr => ∃ k : Nat, i = .int .i64 k ∧ k ≤ m.statuses.l.length ∧ Hid ((m.statuses.l.take k).all stRange = true) ∧ Bx w (msC m) 32 wr) (fun i _ => m.statuses.l.length - (intOf i).toNat)
  case atStart => exact ⟨0, rfl, by omega, Lib.hid (by simp), HB0.out⟩
  case round =>
    obtain ⟨k, rfl, hk, HA, hb⟩ := hrel
    have HB := Lib.hid hb
    clear hb
    have c13 : wr.cell? ⟨w.heap.size, 13, none⟩ = some (.slice m.statuses.a m.statuses.l.length m.statuses.c) := HG.out wr HB.out 13 _ rfl
    by_cases hlt : k < m.statuses.l.length
    · have i0' : (0 : Int) ≤ (k : Int) := by omega
      have i1 : (k : Int) < (m.statuses.l.length : Int) := by omega
      obtain ⟨b, off, hxa, hg2, hcc⟩ := HRSt.out.at (fun _ => rfl) (by omega) hlt (w' := w)
      have HXA := Lib.hid hxa
      have hrun : ∀ w', Sem.run Tryd.prog (Instr.indexAt 24 (.slice m.statuses.a m.statuses.l.length m.statuses.c) (.int .i64 k)) w' = .ok (Value.pointer (some ⟨b, off + k * 12, none⟩)) w' := fun w' => by
        rw [HXA.out]; go_simp
      clear hxa
      obtain ⟨x, hx⟩ : ∃ x, x = m.statuses.l[k] := ⟨_, rfl⟩
      have HX := Lib.hid hx.symm
      have HM := Lib.hid (hx ▸ List.getElem_mem hlt : x ∈ m.statuses.l)
      clear hx
      have HLw := Lib.hid (bx_low HB.out)
      have a0 : wr.cell? ⟨b, off + k * 12, none⟩ = some (.int .i64 x.server) := by simpa using hcc wr HLw.out 0 _ (by rw [HX.out]; rfl)
      have a1 : wr.cell? ⟨b, off + k * 12 + 1, none⟩ = some (.int .i64 x.view) := hcc wr HLw.out 1 _ (by rw [HX.out]; rfl)
      have a2 : wr.cell? ⟨b, off + k * 12 + 2, none⟩ = some (.int .i64 x.length) := hcc wr HLw.out 2 _ (by rw [HX.out]; rfl)
      have a3 : wr.cell? ⟨b, off + k * 12 + 3, none⟩ = some (.int .i64 x.lockView) := hcc wr HLw.out 3 _ (by rw [HX.out]; rfl)
      have a4 : wr.cell? ⟨b, off + k * 12 + 4, none⟩ = some (.string ⟨x.lock.toArray⟩) := hcc wr HLw.out 4 _ (by rw [HX.out]; rfl)
      have a5 : wr.cell? ⟨b, off + k * 12 + 5, none⟩ = some (.slice x.cert.a x.cert.l.length x.cert.c) := hcc wr HLw.out 5 _ (by rw [HX.out]; rfl)
      have a6 : wr.cell? ⟨b, off + k * 12 + 6, none⟩ = some (.int .i64 x.signed.server) := hcc wr HLw.out 6 _ (by rw [HX.out]; rfl)
      have a7 : wr.cell? ⟨b, off + k * 12 + 7, none⟩ = some (.int .i64 x.signed.kind) := hcc wr HLw.out 7 _ (by rw [HX.out]; rfl)
      have a8 : wr.cell? ⟨b, off + k * 12 + 8, none⟩ = some (.int .i64 x.signed.view) := hcc wr HLw.out 8 _ (by rw [HX.out]; rfl)
      have a9 : wr.cell? ⟨b, off + k * 12 + 9, none⟩ = some (.int .i64 x.signed.slot) := hcc wr HLw.out 9 _ (by rw [HX.out]; rfl)
      have a10 : wr.cell? ⟨b, off + k * 12 + 10, none⟩ = some (.string ⟨x.signed.digest.toArray⟩) := hcc wr HLw.out 10 _ (by rw [HX.out]; rfl)
      have a11 : wr.cell? ⟨b, off + k * 12 + 11, none⟩ = some (.string ⟨x.signed.sig.toArray⟩) := hcc wr HLw.out 11 _ (by rw [HX.out]; rfl)
      have HT := Lib.hid (all_take m.statuses.l stRange k hlt)
      have HN := Lib.hid (fun h => HNoSt.out (all_take_no m.statuses.l stRange k hlt (by rw [HX.out]; exact h)))
      clear hcc
      have HCall : Hid (Calls Tryd.prog 47 #[.agg #[.int .i64 x.server, .int .i64 x.view, .int .i64 x.length, .int .i64 x.lockView, .string ⟨x.lock.toArray⟩, .slice x.cert.a x.cert.l.length x.cert.c, .int .i64 x.signed.server, .int .i64 x.signed.kind, .int .i64 x.signed.view, .int .i64 x.signed.slot, .string ⟨x.signed.digest.toArray⟩, .string ⟨x.signed.sig.toArray⟩]] wr (RetBool (stRange x) wr)) := Lib.hid (statusRange_any x wr)
      cases hq : stRange x with
      | true =>
        have HQ := Lib.hid hq
        rw [hq] at HCall
        clear hq
        go_wp2_with fail
        refine HCall.out.mono ?_
        rintro e w1 ⟨rfl, b1⟩
        have HB1 := Lib.hid (bx_on HB.out b1)
        clear b1
        go_wp2_with fail
        go_roundw
        case rel => exact ⟨k + 1, by go_num, by omega, Lib.hid (by rw [HT.out, HA.out, HX.out]; show (true && (stRange x)) = true; rw [HQ.out]; rfl), HB1.out⟩
        case measure => simp [intOf]; omega
      | false =>
        have HQ := Lib.hid hq
        rw [hq] at HCall
        clear hq
        go_wp2_with fail
        refine HCall.out.mono ?_
        rintro e w1 ⟨rfl, b1⟩
        have HB1 := Lib.hid (bx_on HB.out b1)
        clear b1
        go_wp2_with fail
        go_ret
        exact ret_bl (HN.out HQ.out) (bx_low HB1.out)
    · obtain rfl : k = m.statuses.l.length := by omega
      have HYSt : Hid (m.statuses.l.all stRange = true) := Lib.hid (by have := HA.out; rwa [List.take_length] at this)
      clear HA hlt hk
      go_wp2_with fail
      go_loopw [4] (fun i wr => ∃ k : Nat, i = .int .i64 k ∧ k ≤ m.entries.l.length ∧ Hid ((m.entries.l.take k).all (fun d => num d.view) = true) ∧ Bx w (msC m) 32 wr) (fun i _ => m.entries.l.length - (intOf i).toNat)
      case atStart => exact ⟨0, rfl, by omega, Lib.hid (by simp), HB.out⟩
      case round =>
        obtain ⟨k, rfl, hk, HA, hb⟩ := hrel
        have HB := Lib.hid hb
        clear hb
        have c14 : wr.cell? ⟨w.heap.size, 14, none⟩ = some (.slice m.entries.a m.entries.l.length m.entries.c) := HG.out wr HB.out 14 _ rfl
        by_cases hlt : k < m.entries.l.length
        · have i0' : (0 : Int) ≤ (k : Int) := by omega
          have i1 : (k : Int) < (m.entries.l.length : Int) := by omega
          obtain ⟨b, off, hxa, hg2, hcc⟩ := HRDe.out.at (fun _ => rfl) (by omega) hlt (w' := w)
          have HXA := Lib.hid hxa
          have hrun : ∀ w', Sem.run Tryd.prog (Instr.indexAt 25 (.slice m.entries.a m.entries.l.length m.entries.c) (.int .i64 k)) w' = .ok (Value.pointer (some ⟨b, off + k * 3, none⟩)) w' := fun w' => by
            rw [HXA.out]; go_simp
          clear hxa
          obtain ⟨x, hx⟩ : ∃ x, x = m.entries.l[k] := ⟨_, rfl⟩
          have HX := Lib.hid hx.symm
          have HM := Lib.hid (hx ▸ List.getElem_mem hlt : x ∈ m.entries.l)
          clear hx
          have HLw := Lib.hid (bx_low HB.out)
          have a0 : wr.cell? ⟨b, off + k * 3, none⟩ = some (.int .i64 x.view) := by simpa using hcc wr HLw.out 0 _ (by rw [HX.out]; rfl)
          have HT := Lib.hid (all_take m.entries.l (fun d => num d.view) k hlt)
          have HN := Lib.hid (fun h => HNoDe.out (all_take_no m.entries.l (fun d => num d.view) k hlt (by rw [HX.out]; exact h)))
          clear hcc
          cases hq : num x.view with
          | true =>
            have HQ := Lib.hid hq
            clear hq
            go_wp2_with fail
            refine (HNum.out _ _).mono ?_
            rintro e w1 ⟨rfl, rfl⟩
            rw [HQ.out]
            go_wp2_with fail
            go_roundw
            case rel => exact ⟨k + 1, by go_num, by omega, Lib.hid (by rw [HT.out, HA.out, HX.out]; show (true && (num x.view)) = true; rw [HQ.out]; rfl), HB.out⟩
            case measure => simp [intOf]; omega
          | false =>
            have HQ := Lib.hid hq
            clear hq
            go_wp2_with fail
            refine (HNum.out _ _).mono ?_
            rintro e w1 ⟨rfl, rfl⟩
            rw [HQ.out]
            go_wp2_with fail
            go_ret
            exact ret_bl (HN.out HQ.out) (bx_low HB.out)
        · obtain rfl : k = m.entries.l.length := by omega
          have HYDe : Hid (m.entries.l.all (fun d => num d.view) = true) := Lib.hid (by have := HA.out; rwa [List.take_length] at this)
          clear HA hlt hk
          go_wp2_with fail
          go_loopw [5] (fun i wr => ∃ k : Nat, i = .int .i64 k ∧ k ≤ m.snapshot.chain.l.length ∧ Hid ((m.snapshot.chain.l.take k).all hoRange = true) ∧ Bx w (msC m) 32 wr) (fun i _ => m.snapshot.chain.l.length - (intOf i).toNat)
          case atStart => exact ⟨0, rfl, by omega, Lib.hid (by simp), HB.out⟩
          case round =>
            obtain ⟨k, rfl, hk, HA, hb⟩ := hrel
            have HB := Lib.hid hb
            clear hb
            have c19 : wr.cell? ⟨w.heap.size, 19, none⟩ = some (.slice m.snapshot.chain.a m.snapshot.chain.l.length m.snapshot.chain.c) := HG.out wr HB.out 19 _ rfl
            have c15 : wr.cell? ⟨w.heap.size, 15, none⟩ = some (.int .i64 m.snapshot.slot) := HG.out wr HB.out 15 _ rfl
            by_cases hlt : k < m.snapshot.chain.l.length
            · have i0' : (0 : Int) ≤ (k : Int) := by omega
              have i1 : (k : Int) < (m.snapshot.chain.l.length : Int) := by omega
              obtain ⟨b, off, hxa, hg2, hcc⟩ := HRHo.out.at (fun _ => rfl) (by omega) hlt (w' := w)
              have HXA := Lib.hid hxa
              have hrun : ∀ w', Sem.run Tryd.prog (Instr.indexAt 28 (.slice m.snapshot.chain.a m.snapshot.chain.l.length m.snapshot.chain.c) (.int .i64 k)) w' = .ok (Value.pointer (some ⟨b, off + k * 4, none⟩)) w' := fun w' => by
                rw [HXA.out]; go_simp
              clear hxa
              obtain ⟨x, hx⟩ : ∃ x, x = m.snapshot.chain.l[k] := ⟨_, rfl⟩
              have HX := Lib.hid hx.symm
              have HM := Lib.hid (hx ▸ List.getElem_mem hlt : x ∈ m.snapshot.chain.l)
              clear hx
              have HLw := Lib.hid (bx_low HB.out)
              have a0 : wr.cell? ⟨b, off + k * 4, none⟩ = some (.int .i64 x.slot) := by simpa using hcc wr HLw.out 0 _ (by rw [HX.out]; rfl)
              have a1 : wr.cell? ⟨b, off + k * 4 + 1, none⟩ = some (.int .i64 x.entry.view) := hcc wr HLw.out 1 _ (by rw [HX.out]; rfl)
              have HT := Lib.hid (all_take m.snapshot.chain.l hoRange k hlt)
              have HN := Lib.hid (fun h => HNoHo.out (all_take_no m.snapshot.chain.l hoRange k hlt (by rw [HX.out]; exact h)))
              clear hcc
              cases hq : num x.slot with
              | true =>
                have HQ := Lib.hid hq
                clear hq
                cases hq2 : num x.entry.view with
                | true =>
                  have HQ2 := Lib.hid hq2
                  clear hq2
                  go_wp2_with fail
                  refine (HNum.out _ _).mono ?_
                  rintro e w1 ⟨rfl, rfl⟩
                  rw [HQ.out]
                  go_wp2_with fail
                  refine (HNum.out _ _).mono ?_
                  rintro e w1 ⟨rfl, rfl⟩
                  rw [HQ2.out]
                  go_wp2_with fail
                  go_roundw
                  case rel => exact ⟨k + 1, by go_num, by omega, Lib.hid (by rw [HT.out, HA.out, HX.out]; show (true && (num x.slot && num x.entry.view)) = true; rw [HQ.out, HQ2.out]; rfl), HB.out⟩
                  case measure => simp [intOf]; omega
                | false =>
                  have HQ2 := Lib.hid hq2
                  clear hq2
                  go_wp2_with fail
                  refine (HNum.out _ _).mono ?_
                  rintro e w1 ⟨rfl, rfl⟩
                  rw [HQ.out]
                  go_wp2_with fail
                  refine (HNum.out _ _).mono ?_
                  rintro e w1 ⟨rfl, rfl⟩
                  rw [HQ2.out]
                  go_wp2_with fail
                  go_ret
                  exact ret_bl (HN.out (by show (num x.slot && num x.entry.view) = false; rw [HQ.out, HQ2.out]; rfl)) (bx_low HB.out)
              | false =>
                have HQ := Lib.hid hq
                clear hq
                go_wp2_with fail
                refine (HNum.out _ _).mono ?_
                rintro e w1 ⟨rfl, rfl⟩
                rw [HQ.out]
                go_wp2_with fail
                go_ret
                exact ret_bl (HN.out (by show (num x.slot && num x.entry.view) = false; rw [HQ.out]; rfl)) (bx_low HB.out)
            · obtain rfl : k = m.snapshot.chain.l.length := by omega
              have HYHo : Hid (m.snapshot.chain.l.all hoRange = true) := Lib.hid (by have := HA.out; rwa [List.take_length] at this)
              clear HA hlt hk
              have HZ : Hid (rangesB m = num m.snapshot.slot) := Lib.hid (by unfold rangesB; rw [HYSt.out, HYDe.out, HYHo.out]; rfl)
              have HB3 := Lib.hid (bx_low HB.out)
              go_wp2_with fail
              refine (HNum.out _ _).mono ?_
              rintro e w1 ⟨rfl, rfl⟩
              go_wp2_with fail
              go_ret
              exact ret_bl HZ.out HB3.out
end Go.Proofs.YtoehakekjlebdaaDoor
