/- The law MessageEncode. -/
import Derived.Test.YtoehakekjlebdaaGreatDoorZLawDs
namespace Go.Proofs.YtoehakekjlebdaaGreatDoor
open Go.RowKit

set_option maxRecDepth 100000 in
set_option maxHeartbeats 4000000 in
theorem refEncodeM_any (m : Ms) (w : World) (hok : m.ok w) (hs : m.sz ≤ 16777216) : Calls Tryz.prog 15 #[.agg (msC m).toArray] w (RetStrErr (enc0 m) (vMs m) w) := by
  have HV : Hid (∀ w1, Below w.heap.size w w1 → Calls Tryz.prog 33 #[.agg (msC m).toArray] w1 (RetErr (vMs m) w1)) := Lib.hid (fun w1 hb => refValid_any m w1 (Ms.below hok hb) (MsFew.of_sz (by omega)))
  have HE : Hid (∀ w1, Below w.heap.size w w1 → Calls Tryz.prog 22 #[.agg (msC m).toArray] w1 (RetStr (encMs m) w1)) := Lib.hid (fun w1 hb => refEncode_any m w1 (Ms.below hok hb) hs)
  have HB0 := Lib.hid (bx_new w (msC m) 36)
  have HRow : Hid (∀ W, Bx w (msC m) 36 W → W.rangeAt w.heap.size 0 (msC m)) := Lib.hid (fun W hb j v hv => by rw [Nat.zero_add]; exact bx_cell hb j v hv)
  clear hok hs
  go_enter Tryz.func15, Tryz.ntmps15
  go_wp2_with (refine wpList_load_mid rfl 36 _ rfl _ 0 rfl (msC m) _ (HRow.out _ HB0.out) Tryz.underlying36 rfl (infoMs m) ?_)
  refine (HV.out _ (bx_low HB0.out)).mono ?_
  rintro e w2 ⟨rfl, b2⟩
  have HB2 := Lib.hid (bx_on HB0.out b2)
  clear b2
  by_cases h0 : vMs m = 0
  · have h1 : (vMs m == 0) = true := by simp [h0]
    have h2 : (vMs m != 0) = false := by simp [h0]
    have H0 := Lib.hid h0
    clear h0
    have HE2 := Lib.hid (HE.out w2 (bx_low HB2.out))
    go_wp2_with (refine wpList_load_mid rfl 36 _ rfl _ 0 rfl (msC m) _ (HRow.out _ HB2.out) Tryz.underlying36 rfl (infoMs m) ?_)
    refine HE2.out.mono ?_
    rintro e w3 ⟨rfl, b3⟩
    have HB3 := Lib.hid (bx_low (bx_on HB2.out b3))
    clear b3
    go_wp2_with fail
    go_ret2
    exact ret_se (by unfold enc0; rw [if_pos H0.out]) H0.out HB3.out
  · have h1 : (vMs m == 0) = false := by simp [h0]
    have h2 : (vMs m != 0) = true := by simp [h0]
    have H0 := Lib.hid h0
    clear h0
    go_wp2_with fail
    go_ret2
    exact ret_se (by unfold enc0; rw [if_neg H0.out]) rfl (bx_low HB2.out)
theorem decM_some {P : Program} {f : FuncId} {args : Array Value} {o : Option Ms} {w : World} {m : Ms} (h : Calls P f args w (RetDecM o w)) (ho : o = some m) :
    Calls P f args w fun e w' => ∃ x : Ms, x.er = m ∧ e = .returned (.tuple #[.agg (msC x).toArray, .int .i64 0]) ∧ x.ok w' ∧ Below w.heap.size w w' :=
  h.mono fun _ _ hh => by
    subst ho
    obtain ⟨hb, x, hx, he, hk⟩ := hh
    exact ⟨x, hx, he, hk, hb⟩
theorem decM_none {P : Program} {f : FuncId} {args : Array Value} {o : Option Ms} {w : World} (h : Calls P f args w (RetDecM o w)) (ho : o = none) :
    Calls P f args w fun e w' => e = .returned (.tuple #[.agg (msC ms0).toArray, .int .i64 2]) ∧ Below w.heap.size w w' :=
  h.mono fun _ _ hh => by
    subst ho
    exact ⟨hh.2, hh.1⟩
set_option maxRecDepth 100000 in
set_option maxHeartbeats 1000000 in
theorem lawEncode (m : Ms) (w : World) (he : Env w) (hok : m.ok w) (hs : m.sz ≤ 16000000) : Calls Tryz.prog 5 #[.agg (msC m).toArray] w (RetBool true w) := by
  have HA : Hid (∀ w1, Below w.heap.size w w1 → Calls Tryz.prog 7 #[] w1 (RetBool true w1)) := Lib.hid (fun w1 hb => awake_any w1 (he.below hb))
  have HFw : Hid (∀ W, Below w.heap.size w W → Calls Tryz.prog 8 #[.agg (msC m).toArray] W (RetBool (fewB m) W)) := Lib.hid (fun W hb => few_any m W (Ms.below hok hb) (by omega))
  have HV0 := Lib.hid (Vr.new w (msC m) 36)
  have HB0 := Lib.hid (below_new w (.cells (msC m).toArray 36))
  have HOk : Hid (∀ W, Below w.heap.size w W → m.ok W) := Lib.hid (fun W hb => Ms.below hok hb)
  have HEp : Hid (∀ W, Below w.heap.size w W → Calls Tryz.prog 14 #[.agg (msC m).toArray] W (RetStrErr (enc0 m) (vMs m) W)) := Lib.hid (fun W hb => encode_any m W (Ms.below hok hb) (by omega))
  have HEr : Hid (∀ W, Below w.heap.size w W → Calls Tryz.prog 15 #[.agg (msC m).toArray] W (RetStrErr (enc0 m) (vMs m) W)) := Lib.hid (fun W hb => refEncodeM_any m W (Ms.below hok hb) (by omega))
  have HDe : Hid (vMs m = 0 → decMs (encMs m) = some m.er ∧ (encMs m).length ≤ 268435456) := Lib.hid (fun h => ⟨decMs_put m w hok h, by
    have h1 := encMs_len m w hok (by omega)
    omega⟩)
  clear he hok
  go_enter Tryz.func5, Tryz.ntmps5
  go_wp2_with fail
  refine (HA.out _ HB0.out).mono ?_
  rintro e w1 ⟨rfl, b1⟩
  have HV1 := Lib.hid (HV0.out.below b1)
  have HB1 := Lib.hid (bon HB0.out b1)
  clear b1
  go_wp2_with (refine wpList_load_wanted (by rfl) 36 _ rfl w.heap.size 0 rfl (msC m) _ HV1.out.range Tryz.underlying36 rfl (infoMsn m) ?_)
  refine (HFw.out _ HB1.out).mono ?_
  rintro e w3 ⟨rfl, b3⟩
  have HV3 := Lib.hid (HV1.out.below b3)
  have HB3 := Lib.hid (bon HB1.out b3)
  clear b3
  generalize fewB _ = q
  cases q with
  | false =>
    go_wp2_with fail
    refine (HA.out _ HB3.out).mono ?_
    rintro e w4 ⟨rfl, b4⟩
    have HB4 := Lib.hid (bon HB3.out b4)
    clear b4
    go_wp2_with fail
    go_ret
    exact ret_bl rfl HB4.out
  | true =>
    go_wp2_with (refine wpList_load_mid rfl 36 _ rfl w.heap.size 0 rfl (msC m) _ HV3.out.range Tryz.underlying36 rfl (infoMsn m) ?_)
    refine (HEp.out _ HB3.out).mono ?_
    rintro e w4 ⟨rfl, b4⟩
    have HV4 := Lib.hid (HV3.out.below b4)
    have HB4 := Lib.hid (bon HB3.out b4)
    clear b4
    go_wp2_with (refine wpList_load_mid rfl 36 _ rfl w.heap.size 0 rfl (msC m) _ HV4.out.range Tryz.underlying36 rfl (infoMsn m) ?_)
    refine (HEr.out _ HB4.out).mono ?_
    rintro e w5 ⟨rfl, b5⟩
    have HV5 := Lib.hid (HV4.out.below b5)
    have HB5 := Lib.hid (bon HB4.out b5)
    clear b5
    by_cases h0 : vMs m = 0
    · obtain ⟨hd, hl⟩ := HDe.out h0
      have HEq : Hid (enc0 m = encMs m) := Lib.hid (by unfold enc0; rw [if_pos h0])
      have HD := Lib.hid hd
      rw [HEq.out, h0]
      clear hd h0
      generalize hle : encMs m = l at HD hl ⊢
      clear hle
      go_wp2_with fail
      refine (decM_some (decode_any l w5 hl) HD.out).mono ?_
      rintro e w6 ⟨x, hx, rfl, hxk, b6⟩
      have HT6 := Lib.hid (Vr.new w6 (msC ms0) 36)
      have HB6' := Lib.hid (bon (bon HB5.out b6) (below_new w6 (.cells (msC ms0).toArray 36)))
      have hlt6 : w.heap.size < w6.heap.size := (HV5.out.below b6).lt
      have HV6 := Lib.hid (((HV5.out.below b6).below (below_new w6 (.cells (msC ms0).toArray 36))).grown (grown_vs (b := w6.heap.size) (msC x)) (by omega))
      have HB6 := Lib.hid (below_gr HB6'.out (grown_vs (b := w6.heap.size) (msC x)) (by omega))
      have HX6 := Lib.hid (HT6.out.sets (msC x) rfl)
      have HK6 : Hid (x.ok ((w6.alloc (.cells (msC ms0).toArray 36)).setCells w6.heap.size 0 (msC x))) := Lib.hid (Ms.below hxk (below_gr (below_new w6 (.cells (msC ms0).toArray 36)) (grown_vs (b := w6.heap.size) (msC x)) (Nat.le_refl _)))
      have HEx := Lib.hid hx
      clear b6 hx hxk
      go_upto_region 8 with (refine wpList_store_mid rfl 36 _ _ rfl w6.heap.size 0 (msC x).toArray rfl rfl ?_ (infoMsn x) (msC_one' x) ?_; · exact HT6.out.there rfl)
      try simp only [List.toList_toArray]
      change Code.wp _ _ _ _ ((w6.alloc (.cells (msC ms0).toArray 36)).setCells w6.heap.size 0 (msC x))
      generalize (w6.alloc (.cells (msC ms0).toArray 36)).setCells w6.heap.size 0 (msC x) = w7 at HV6 HB6 HX6 HK6 ⊢
      have HSx : Hid (x.sz = m.sz) := Lib.hid (by rw [← Ms.sz_er x, HEx.out, Ms.sz_er m])
      have HE := Lib.hid (refEqualMs_any x m w7 HK6.out (HOk.out _ HB6.out) (by rw [HSx.out]; omega) (by omega))
      rw [show encMs x = encMs m from by rw [← encMs_er x, HEx.out, encMs_er], eqT_self] at HE
      go_wp2_with (first
        | (refine wpList_load_wanted (by rfl) 36 _ rfl w6.heap.size 0 rfl (msC x) _ HX6.out.range Tryz.underlying36 rfl (infoMsn x) ?_)
        | (refine wpList_load_wanted (by rfl) 36 _ rfl w.heap.size 0 rfl (msC m) _ HV6.out.range Tryz.underlying36 rfl (infoMsn m) ?_))
      refine HE.out.mono ?_
      rintro e w8 ⟨rfl, b8⟩
      have HB8 := Lib.hid (bon HB6.out b8)
      clear b8
      go_wp2_with fail
      go_ret
      exact ret_bl rfl HB8.out
    · have h1 : (vMs m == 0) = false := by simp [h0]
      have h2 : (vMs m != 0) = true := by simp [h0]
      clear h0
      generalize vMs m = v at h1 h2 ⊢
      generalize enc0 m = l
      go_wp2_with fail
      go_ret
      exact ret_bl (by simp) HB5.out
end Go.Proofs.YtoehakekjlebdaaGreatDoor
