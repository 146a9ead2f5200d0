/- The contract of the reference's Valid; and of the program's, for any kind. -/
import Derived.Test.YtoehakekjlebdaaDoorRefY
namespace Go.Proofs.YtoehakekjlebdaaDoor
open Go.RowKit

theorem valid_any (m : Ms) (w : World) (hok : m.ok w) (hf : MsFew m) : Calls Tryd.prog 8 #[.agg (msC m).toArray] w (RetErr (vMs m) w) := by
  by_cases h : m.kind < 1 ∨ 12 < m.kind
  · exact valid_kind m w h
  · exact valid_in m w h hok hf
set_option maxRecDepth 100000 in
set_option maxHeartbeats 4000000 in
theorem refValid_kind (m : Ms) (w : World) (h : m.kind < 1 ∨ 12 < m.kind) : Calls Tryd.prog 9 #[.agg (msC m).toArray] w (RetErr (vMs m) w) := by
  have HV := Lib.hid (vMs_kind h)
  have c0 : (w.alloc (.cells (msC m).toArray 32)).cell? ⟨w.heap.size, 0, none⟩ = some (.int .i64 m.kind) := bx_cell (bx_new w (msC m) 32) 0 _ rfl
  by_cases h1 : m.kind < 1
  · go_enter Tryd.func9, Tryd.ntmps9
    go_wp2_with fail
    go_ret
    exact ret_er HV.out (below_new _ _)
  · have h2 : 12 < m.kind := by omega
    go_enter Tryd.func9, Tryd.ntmps9
    go_wp2_with fail
    go_ret
    exact ret_er HV.out (below_new _ _)
set_option maxRecDepth 100000 in
set_option maxHeartbeats 16000000 in
theorem refValid_in (m : Ms) (w : World) (h : ¬ (m.kind < 1 ∨ 12 < m.kind)) (hok : m.ok w) (hf : MsFew m) : Calls Tryd.prog 9 #[.agg (msC m).toArray] w (RetErr (vMs m) w) := by
  have HV7 := Lib.hid (vMs_part h)
  have HV1 := Lib.hid (vMs_spare h)
  have HVT := Lib.hid (vMs_tail h)
  have HN := Lib.hid (fun n w' => refNumber_any n w')
  have HSp := Lib.hid (fun w1 => spare_any m h w1 hf.chunks hf.proof hf.chain)
  have HRg : Hid (∀ w1, Below w.heap.size w w1 → Calls Tryd.prog 29 #[.agg (msC m).toArray] w1 (RetBool (rangesB m) w1)) := Lib.hid (fun w1 hb => ranges_any m w1 (Ms.below hok hb) hf)
  have HLn : Hid (∀ w1, Below w.heap.size w w1 → Calls Tryd.prog 30 #[.agg (msC m).toArray] w1 (RetBool (lengthsB m) w1)) := Lib.hid (fun w1 hb => lengths_any m w1 (Ms.below hok hb) hf)
  have hk1 : ¬ m.kind < 1 := fun a => h (.inl a)
  have hk2 : ¬ 12 < m.kind := fun a => h (.inr a)
  have hsl := hf.statuses
  have hchl := hf.chunks
  clear h hok hf
  go_enter Tryd.func9, Tryd.ntmps9
  go_upto_region 1 with fail
  obtain ⟨wb, hwb⟩ : ∃ wb, wb = w.alloc (.cells (msC m).toArray 32) := ⟨_, rfl⟩
  rw [← hwb]
  have HB0 : Hid (Bx w (msC m) 32 wb) := Lib.hid (by rw [hwb]; exact bx_new w (msC m) 32)
  clear hwb
  have HRow : Hid (∀ W, Bx w (msC m) 32 W → W.rangeAt w.heap.size 0 (msC m)) := Lib.hid (fun W hb j v hv => by rw [Nat.zero_add]; exact bx_cell hb j v hv)
  have HG : Hid (∀ W, Bx w (msC m) 32 W → ∀ j v, (msC m)[j]? = some v → W.cell? ⟨w.heap.size, j, none⟩ = some v) := Lib.hid (fun W hb j v hv => bx_cell hb j v hv)
  have c0 : wb.cell? ⟨w.heap.size, 0, none⟩ = some (.int .i64 m.kind) := HG.out wb HB0.out 0 _ rfl
  have c1 : wb.cell? ⟨w.heap.size, 1, none⟩ = some (.int .i64 m.src) := HG.out wb HB0.out 1 _ rfl
  have c2 : wb.cell? ⟨w.heap.size, 2, none⟩ = some (.int .i64 m.dst) := HG.out wb HB0.out 2 _ rfl
  have c3 : wb.cell? ⟨w.heap.size, 3, none⟩ = some (.int .i64 m.view) := HG.out wb HB0.out 3 _ rfl
  have c4 : wb.cell? ⟨w.heap.size, 4, none⟩ = some (.int .i64 m.slot) := HG.out wb HB0.out 4 _ rfl
  have c6 : wb.cell? ⟨w.heap.size, 6, none⟩ = some (.int .i64 m.till) := HG.out wb HB0.out 6 _ rfl
  go_upto_region 3 with fail
  clear hk1 hk2
  go_cut [45] from 11 to 45 (fun t wx => t = .bool (partB m) ∧ wb = wx)
  case first =>
    go_wp2_with (go_at_call 27; refine (HN.out _ _).mono ?_; rintro e w' ⟨rfl, rfl⟩)
    all_goals
      go_meet
      case rel => exact ⟨by first
        | exact congrArg Value.bool (partB_last m (by assumption) (by assumption))
        | exact congrArg Value.bool (partB_lt m (by omega)).symm
        | exact congrArg Value.bool (partB_view m (by assumption)).symm
        | exact congrArg Value.bool (partB_slot m (by assumption)).symm, rfl⟩
  case rest =>
    obtain ⟨rfl, rfl⟩ := hcut
    cases hp : partB m with
    | true =>
      have HV := Lib.hid (HV7.out hp)
      clear hp
      go_wp2_with fail
      go_ret
      exact ret_er HV.out (bx_low HB0.out)
    | false =>
      have HVT2 := Lib.hid (HVT.out hp)
      have HV12 := Lib.hid (HV1.out hp)
      clear hp c0 c1 c2 c3 c4 c6
      go_upto_region 5 with fail
      go_cut [58] from 46 to 58 (fun t wx => t = .bool (spareB m || oneB m) ∧ Bx w (msC m) 32 wx)
      case first =>
        go_wp2_with (refine wpList_load_mid rfl 32 _ rfl _ 0 rfl (msC m) _ (HRow.out _ HB0.out) Tryd.underlying32 rfl (infoMs m) ?_)
        refine (HSp.out _).mono ?_
        rintro e w2 ⟨rfl, b2⟩
        have hb2 := bx_on HB0.out b2
        have HB2 := Lib.hid hb2
        have d0 : w2.cell? ⟨w.heap.size, 0, none⟩ = some (.int .i64 m.kind) := HG.out w2 HB2.out 0 _ rfl
        have d13 : w2.cell? ⟨w.heap.size, 13, none⟩ = some (.slice m.statuses.a m.statuses.l.length m.statuses.c) := HG.out w2 HB2.out 13 _ rfl
        clear hb2 b2
        cases hsp : spareB m with
        | true =>
          have HSq := Lib.hid hsp
          clear hsp
          go_wp2_with fail
          go_meet
          case rel => exact ⟨congrArg Value.bool (by rw [HSq.out, Bool.true_or]), HB2.out⟩
        | false =>
          have HSq := Lib.hid hsp
          clear hsp
          by_cases hk2 : m.kind = 2
          · have hk3 : (m.kind == 2) = true := by simp [hk2]
            have HO : Hid (((m.statuses.l.length : Int) != 1) = oneB m) := Lib.hid (by
              unfold oneB
              rw [decide_eq_true hk2, Bool.eq_iff_iff]; simp; omega)
            have HK2 := Lib.hid hk2
            clear hk2
            go_wp2_with fail
            go_meet
            case rel => exact ⟨congrArg Value.bool (by rw [HSq.out, Bool.false_or, HO.out]), HB2.out⟩
          · have hk3 : (m.kind == 2) = false := by simp [hk2]
            have HO : Hid (oneB m = false) := Lib.hid (by unfold oneB; rw [decide_eq_false hk2]; rfl)
            go_wp2_with fail
            go_meet
            case rel => exact ⟨congrArg Value.bool (by rw [HSq.out, HO.out, Bool.false_or]), HB2.out⟩
      case rest =>
        obtain ⟨rfl, hbx⟩ := hcut
        obtain ⟨w3, hw3⟩ : ∃ w3 : World, w3 = wc := ⟨_, rfl⟩
        subst hw3
        have HB3 := Lib.hid hbx
        clear hbx HSp
        cases hs : (spareB m || oneB m) with
        | true =>
          have HV := Lib.hid (HV12.out (by simpa using hs))
          clear hs
          go_wp2_with fail
          go_ret
          exact ret_er HV.out (bx_low HB3.out)
        | false =>
          have hs2 : spareB m = false ∧ oneB m = false := by simpa using hs
          have HV : Hid (vMs m = vTail m) := Lib.hid (HVT2.out hs2.1 hs2.2)
          clear hs hs2 HV12 HV7 HV1 HVT HVT2
          have HR3 := Lib.hid (HRg.out w3 (bx_low HB3.out))
          go_wp2_with (refine wpList_load_mid rfl 32 _ rfl _ 0 rfl (msC m) _ (HRow.out _ HB3.out) Tryd.underlying32 rfl (infoMs m) ?_)
          refine HR3.out.mono ?_
          rintro e w4 ⟨rfl, b4⟩
          have HB4 := Lib.hid (bx_on HB3.out b4)
          clear b4 HR3
          cases hr : rangesB m with
          | false =>
            have HZ : Hid (vMs m = 7) := Lib.hid (by rw [HV.out]; unfold vTail; rw [if_pos hr])
            clear hr
            go_wp2_with fail
            go_ret
            exact ret_er HZ.out (bx_low HB4.out)
          | true =>
            have HR4 := Lib.hid hr
            clear hr
            have HL4 := Lib.hid (HLn.out w4 (bx_low HB4.out))
            go_wp2_with (refine wpList_load_mid rfl 32 _ rfl _ 0 rfl (msC m) _ (HRow.out _ HB4.out) Tryd.underlying32 rfl (infoMs m) ?_)
            refine HL4.out.mono ?_
            rintro e w5 ⟨rfl, b5⟩
            have HB5 := Lib.hid (bx_on HB4.out b5)
            clear b5 HL4
            have c17 : w5.cell? ⟨w.heap.size, 17, none⟩ = some (.slice m.snapshot.chunks.a m.snapshot.chunks.l.length m.snapshot.chunks.c) := HG.out w5 HB5.out 17 _ rfl
            cases hr : lengthsB m with
            | false =>
              have HZ : Hid (vMs m = 3) := Lib.hid (by rw [HV.out]; unfold vTail; rw [if_neg (by rw [HR4.out]; simp), if_pos hr])
              clear hr
              go_wp2_with fail
              go_ret
              exact ret_er HZ.out (bx_low HB5.out)
            | true =>
              have HZ : Hid (vMs m = if 0 < m.snapshot.chunks.l.length then 1 else 0) := Lib.hid (by rw [HV.out]; unfold vTail; rw [if_neg (by rw [HR4.out]; simp), if_neg (by rw [hr]; simp)])
              clear hr
              by_cases hch : 0 < m.snapshot.chunks.l.length
              · have HZ1 : Hid (vMs m = 1) := Lib.hid (by rw [HZ.out, if_pos hch])
                go_wp2_with fail
                go_ret
                exact ret_er HZ1.out (bx_low HB5.out)
              · have HZ1 : Hid (vMs m = 0) := Lib.hid (by rw [HZ.out, if_neg hch])
                go_wp2_with fail
                go_ret
                exact ret_er HZ1.out (bx_low HB5.out)
theorem refValid_any (m : Ms) (w : World) (hok : m.ok w) (hf : MsFew m) : Calls Tryd.prog 9 #[.agg (msC m).toArray] w (RetErr (vMs m) w) := by
  by_cases h : m.kind < 1 ∨ 12 < m.kind
  · exact refValid_kind m w h
  · exact refValid_in m w h hok hf
end Go.Proofs.YtoehakekjlebdaaDoor
