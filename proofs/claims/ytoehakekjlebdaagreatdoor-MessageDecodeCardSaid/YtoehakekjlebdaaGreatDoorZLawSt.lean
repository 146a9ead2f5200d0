/- The law MessageStatus. -/
import Derived.Test.YtoehakekjlebdaaGreatDoorZLawDs
namespace Go.Proofs.YtoehakekjlebdaaGreatDoor
open Go.RowKit

theorem i640 : I64 0 := ⟨by decide, by decide⟩
theorem vSt_sz {s : St} (h : vSt s = 0) : s.sz ≤ 4200 := by
  refine st_short ?_
  unfold vSt at h
  split at h
  · simp at h
  · split at h
    · simp at h
    · rename_i h2; simpa using h2
set_option maxRecDepth 100000 in
set_option maxHeartbeats 4000000 in
theorem lawStatus (s : St) (w : World) (he : Env w) (hok : s.ok w) (hs : s.sz ≤ 16000000) : Calls Tryz.prog 3 #[.agg (stC s).toArray] w (RetBool true w) := by
  have HA : Hid (∀ w1, Below w.heap.size w w1 → Calls Tryz.prog 7 #[] w1 (RetBool true w1)) := Lib.hid (fun w1 hb => awake_any w1 (he.below hb))
  have HV0 := Lib.hid (Vr.new w (stC s) 26)
  have HB0 := Lib.hid (below_new w (.cells (stC s).toArray 26))
  have HOk : Hid (∀ W, Below w.heap.size w W → s.ok W) := Lib.hid (fun W hb => St.below hok hb)
  have HEp : Hid (∀ W, Below w.heap.size w W → Calls Tryz.prog 9 #[.agg (stC s).toArray] W (RetStrErr (encS0 s) (vSt s) W)) := Lib.hid (fun W hb => encodeStatus_any s W (St.below hok hb) (by omega))
  have HEr : Hid (∀ W, Below w.heap.size w W → Calls Tryz.prog 10 #[.agg (stC s).toArray] W (RetStrErr (encS0 s) (vSt s) W)) := Lib.hid (fun W hb => refEncodeStatus_any s W (St.below hok hb) (by omega))
  have HDe : Hid (vSt s = 0 → decSt (encSt s) = some s.er ∧ (encSt s).length ≤ 2000000) := Lib.hid (fun h => ⟨decSt_put s w hok h, by
    have h1 := encSt_len s w hok (by omega)
    have h2 := vSt_sz h
    omega⟩)
  clear he hok
  go_enter Tryz.func3, Tryz.ntmps3
  go_wp2_with fail
  refine (HA.out _ HB0.out).mono ?_
  rintro e w1 ⟨rfl, b1⟩
  have HV1 := Lib.hid (HV0.out.below b1)
  have HB1 := Lib.hid (bon HB0.out b1)
  clear b1
  go_wp2_with (refine wpList_load_wanted (by rfl) 26 _ rfl w.heap.size 0 rfl [.int .i64 s.server, .int .i64 s.view, .int .i64 s.length, .int .i64 s.lockView, .string ⟨s.lock.toArray⟩, .slice s.cert.a s.cert.l.length s.cert.c, .int .i64 s.signed.server, .int .i64 s.signed.kind, .int .i64 s.signed.view, .int .i64 s.signed.slot, .string ⟨s.signed.digest.toArray⟩, .string ⟨s.signed.sig.toArray⟩] _ HV1.out.range Tryz.underlying26 rfl (infoStn s) ?_)
  have HB2 := Lib.hid (bon HB1.out (below_new w1 (.cells (stC s).toArray 26)))
  have HV2 := Lib.hid (HV1.out.below (below_new w1 (.cells (stC s).toArray 26)))
  have HRow := Lib.hid (rd_new w1 12 1 (stC s) 26 rfl)
  refine (few_any ⟨0, 0, 0, 0, 0, [], 0, sg0, ⟨some ⟨w1.heap.size, 0, none⟩, 1, [s]⟩, Sl.nil, ⟨0, [], Sl.nil, Sl.nil, Sl.nil⟩, Sl.nil⟩ (w1.alloc (.cells (stC s).toArray 26))
    ⟨⟨i640, i640, i640, i640, i640, i640⟩, ⟨i640, i640, i640, i640⟩, ⟨by have := HRow.out; simpa [Sl.rd] using this, fun y hy => by simp only [List.mem_singleton] at hy; subst hy; exact HOk.out _ HB2.out⟩, ⟨Rd.nil _ _ _, by simp [Sl.nil]⟩, ⟨i640, Rd.nil _ _ _, ⟨Rd.nil _ _ _, by simp [Sl.nil]⟩, Rd.nil _ _ _, by simp [Sl.nil]⟩, Rd.nil _ _ _⟩
    (by simp [Ms.sz, Sn.sz, sg0, Sg.sz, sum, Sl.nil]; omega)).mono ?_
  rintro e w3 ⟨rfl, b3⟩
  have HV3 := Lib.hid (HV2.out.below b3)
  have HB3 := Lib.hid (bon HB2.out b3)
  clear b3 HRow
  generalize fewB _ = q
  cases q with
  | false =>
    go_wp2_with fail
    refine (HA.out _ HB3.out).mono ?_
    rintro e w4 ⟨rfl, b4⟩
    have HB4 := Lib.hid (bon HB3.out b4)
    clear b4
    go_wp2_with fail
    go_ret
    exact ret_bl rfl HB4.out
  | true =>
    go_wp2_with (refine wpList_load_mid rfl 26 _ rfl w.heap.size 0 rfl (stC s) _ HV3.out.range Tryz.underlying26 rfl (infoStn s) ?_)
    refine (HEp.out _ HB3.out).mono ?_
    rintro e w4 ⟨rfl, b4⟩
    have HV4 := Lib.hid (HV3.out.below b4)
    have HB4 := Lib.hid (bon HB3.out b4)
    clear b4
    go_wp2_with (refine wpList_load_mid rfl 26 _ rfl w.heap.size 0 rfl (stC s) _ HV4.out.range Tryz.underlying26 rfl (infoStn s) ?_)
    refine (HEr.out _ HB4.out).mono ?_
    rintro e w5 ⟨rfl, b5⟩
    have HV5 := Lib.hid (HV4.out.below b5)
    have HB5 := Lib.hid (bon HB4.out b5)
    clear b5
    by_cases h0 : vSt s = 0
    · obtain ⟨hd, hl⟩ := HDe.out h0
      have hz := vSt_sz h0
      have HEq : Hid (encS0 s = encSt s) := Lib.hid (by unfold encS0; rw [if_pos h0])
      have HD := Lib.hid hd
      rw [HEq.out, h0]
      clear hd h0
      generalize hle : encSt s = l at HD hl ⊢
      have HLe := Lib.hid hle
      clear hle
      go_wp2_with fail
      refine (decS_some (decodeStatus_any l w5 hl) HD.out).mono ?_
      rintro e w6 ⟨x, hx, rfl, hxk, b6⟩
      have HV6 := Lib.hid ((HV5.out.below b6).below (below_new w6 (.cells (stC x).toArray 26)))
      have HB6 := Lib.hid (bon (bon HB5.out b6) (below_new w6 (.cells (stC x).toArray 26)))
      have HX6 := Lib.hid (Vr.new w6 (stC x) 26)
      have HK6 := Lib.hid (St.below hxk (below_new w6 (.cells (stC x).toArray 26)))
      have HEx := Lib.hid hx
      clear b6 hx hxk
      go_upto_region 8 with fail
      obtain ⟨w7, hw7⟩ : ∃ w7, w7 = w6.alloc (.cells (stC x).toArray 26) := ⟨_, rfl⟩
      rw [← hw7] at HV6 HB6 HX6 HK6
      change Code.wp _ _ _ _ (w6.alloc (.cells (stC x).toArray 26))
      rw [← hw7]
      clear hw7
      have HE := Lib.hid (refEqualStatus_any x s w7 HK6.out (HOk.out _ HB6.out) (by have : x.er.sz = x.sz := rfl; rw [← this, HEx.out]; show s.sz ≤ _; omega) (by omega))
      rw [show encSt x = encSt s from by rw [← encSt_er x, HEx.out, encSt_er], eqT_self] at HE
      go_wp2_with (first
        | (refine wpList_load_wanted (by rfl) 26 _ rfl w6.heap.size 0 rfl (stC x) _ HX6.out.range Tryz.underlying26 rfl (infoStn x) ?_)
        | (refine wpList_load_wanted (by rfl) 26 _ rfl w.heap.size 0 rfl (stC s) _ HV6.out.range Tryz.underlying26 rfl (infoStn s) ?_))
      refine HE.out.mono ?_
      rintro e w8 ⟨rfl, b8⟩
      have HB8 := Lib.hid (bon HB6.out b8)
      clear b8
      go_wp2_with fail
      go_ret
      exact ret_bl rfl HB8.out
    · have h1 : (vSt s == 0) = false := by simp [h0]
      have h2 : (vSt s != 0) = true := by simp [h0]
      clear h0
      generalize vSt s = v at h1 h2 ⊢
      generalize encS0 s = l
      go_wp2_with fail
      go_ret
      exact ret_bl (by simp) HB5.out
end Go.Proofs.YtoehakekjlebdaaGreatDoor
