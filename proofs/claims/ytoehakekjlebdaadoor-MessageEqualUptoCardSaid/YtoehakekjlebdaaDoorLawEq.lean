/- Equal on both sides, and the law MessageEqual. -/
import Derived.Test.YtoehakekjlebdaaDoorMsC
import Derived.Deep.Cut
namespace Go.Proofs.YtoehakekjlebdaaDoor
open Go.RowKit

/-- two texts are the same -/
def sameT (a b : List UInt8) : Bool := a == b
theorem sameT_self (a : List UInt8) : sameT a a = true := by simp [sameT]
theorem two_boxes (a b : Ms) (w wq : World) (T : TypeId) (h : wq = (w.alloc (.cells (msC a).toArray T)).alloc (.cells (msC b).toArray T)) :
    Hid (∀ W, Below wq.heap.size wq W → W.rangeAt w.heap.size 0 (msC a)) ∧ Hid (∀ W, Below wq.heap.size wq W → W.rangeAt (w.heap.size + 1) 0 (msC b)) ∧ Hid (∀ W, Below wq.heap.size wq W → Below w.heap.size w W) := by
  have h1 : Bx w (msC a) T wq := by rw [h]; exact bx_alloc (bx_new _ _ _) _
  have h2 : ∀ j v, (msC b)[j]? = some v → wq.cell? ⟨w.heap.size + 1, j, none⟩ = some v := fun j v hv => by rw [h]; exact new_cell _ (msC b) T _ (by simp) j v hv
  have hs : wq.heap.size = w.heap.size + 2 := by rw [h]; simp
  refine ⟨Lib.hid (fun W hb j v hv => ?_), Lib.hid (fun W hb j v hv => ?_), Lib.hid (fun W hb => (bx_low h1).trans (hb.mono (by omega)))⟩
  · rw [Nat.zero_add]
    exact (hb.cell (p := ⟨w.heap.size, j, none⟩) (by show w.heap.size < _; omega)).trans (bx_cell h1 j v hv)
  · rw [Nat.zero_add]
    exact (hb.cell (p := ⟨w.heap.size + 1, j, none⟩) (by show w.heap.size + 1 < _; omega)).trans (h2 j v hv)
set_option maxRecDepth 100000 in
set_option maxHeartbeats 8000000 in
theorem msgEqual_any (a b : Ms) (w : World) (ha : a.ok w) (hb : b.ok w) (sa : a.sz ≤ 16777216) (sb : b.sz ≤ 16777216) : Calls Tryd.prog 11 #[.agg (msC a).toArray, .agg (msC b).toArray] w (RetBool (sameT (encMs a) (encMs b)) w) := by
  obtain ⟨wq, hwq⟩ : ∃ wq, wq = (w.alloc (.cells (msC a).toArray 32)).alloc (.cells (msC b).toArray 32) := ⟨_, rfl⟩
  obtain ⟨HRa, HRb, HLow⟩ := two_boxes a b w wq 32 hwq
  have HCa : Hid (∀ W, Below wq.heap.size wq W → Calls Tryd.prog 31 #[.agg (msC a).toArray] W fun e W' => e = .returned (.string ⟨(encMs a).toArray⟩) ∧ Below wq.heap.size wq W') := Lib.hid (fun W h => (code_any a W (Ms.below ha (HLow.out W h)) sa).mono fun e W' ⟨he, hw⟩ => ⟨he, bon h hw⟩)
  have HCb : Hid (∀ W, Below wq.heap.size wq W → Calls Tryd.prog 31 #[.agg (msC b).toArray] W fun e W' => e = .returned (.string ⟨(encMs b).toArray⟩) ∧ Below wq.heap.size wq W') := Lib.hid (fun W h => (code_any b W (Ms.below hb (HLow.out W h)) sb).mono fun e W' ⟨he, hw⟩ => ⟨he, bon h hw⟩)
  have HWq := Lib.hid hwq
  clear ha hb sa sb hwq
  generalize encMs a = la at HCa ⊢
  generalize encMs b = lb at HCb ⊢
  go_enter Tryd.func11, Tryd.ntmps11
  go_upto_region 1 with fail
  rw [← HWq.out]
  refine wp_region_noPanic ?_
  refine wp_region_held_drew (S := fun W => Below wq.heap.size wq W) (by kernel_rfl) ((Below.refl _ _).drew) (fun hHeld => ?_)
  refine wpAnyH_take (i := 0) (oi := _) rfl (by kernel_rfl) (by kernel_rfl) (by kernel_rfl) (fun _ _ _ h => h) (yieldsIf_load_mid (by rfl) 32 _ (by rfl) _ 0 (by rfl) (msC a) _ HRa.out Tryd.underlying32 rfl (infoMs a)) (by assumption) ?_
  try simp only [Act.put, List.setIfInBounds_toArray, List.set_cons_zero, List.set_cons_succ]
  refine wpAnyH_take (i := 2) (oi := _) rfl (by kernel_rfl) (by kernel_rfl) (by kernel_rfl) (fun _ _ _ h => h) (yieldsIf_load_mid (by rfl) 32 _ (by rfl) _ 0 (by rfl) (msC b) _ HRb.out Tryd.underlying32 rfl (infoMs b)) (by assumption) ?_
  try simp only [Act.put, List.setIfInBounds_toArray, List.set_cons_zero, List.set_cons_succ]
  refine wpAnyH_ready (rs := [1]) (by kernel_rfl) (by simp) ?_
  refine AllReadyH.cons (o := _) rfl (fun K hK => ?_) AllReadyH.nil
  go_simp
  go_at_call 31
  refine (HCa.out _ (by assumption)).mono ?_
  rintro e w4 ⟨rfl, b4⟩
  go_wp2_with fail
  refine hK.out _ _ b4 (fun hHeld => ?_)
  clear hK K
  try simp only [Act.put, List.setIfInBounds_toArray, List.set_cons_zero, List.set_cons_succ]
  refine wpAnyH_ready (rs := [3]) (by kernel_rfl) (by simp) ?_
  refine AllReadyH.cons (o := _) rfl (fun K hK => ?_) AllReadyH.nil
  go_simp
  go_at_call 31
  refine (HCb.out _ (by assumption)).mono ?_
  rintro e w5 ⟨rfl, b5⟩
  go_wp2_with fail
  refine hK.out _ _ b5 (fun hHeld => ?_)
  clear hK K
  try simp only [Act.put, List.setIfInBounds_toArray, List.set_cons_zero, List.set_cons_succ]
  refine wpAnyH_take (i := 4) (oi := _) (v := ?_) rfl (by kernel_rfl) (by kernel_rfl) (by kernel_rfl) (fun _ _ _ h => h) (Or.inl ⟨by rfl, ?_⟩) (by assumption) ?_
  rotate_left
  · intro w hSw; (try dsimp only at hSw); go_simp; try with_reducible rfl
  try simp only [Act.put, List.setIfInBounds_toArray, List.set_cons_zero, List.set_cons_succ]
  refine wpAnyH_ready (rs := [5]) (by kernel_rfl) (by simp) ?_
  refine AllReadyH.cons (o := _) rfl (fun K hK => ?_) AllReadyH.nil
  go_simp
  refine hK.out _ _ b5 (fun hHeld => ?_)
  clear hK K
  try simp only [Act.put, List.setIfInBounds_toArray, List.set_cons_zero, List.set_cons_succ]
  refine wpAnyH_done (by kernel_rfl) ?_ _
  refine NoPanic.normal ?_
  go_wp2_with fail
  go_ret
  exact ret_bl rfl (HLow.out _ b5)

set_option maxRecDepth 100000 in
set_option maxHeartbeats 8000000 in
theorem refEqual_any (a b : Ms) (w : World) (ha : a.ok w) (hb : b.ok w) (sa : a.sz ≤ 16777216) (sb : b.sz ≤ 16777216) : Calls Tryd.prog 12 #[.agg (msC a).toArray, .agg (msC b).toArray] w (RetBool (sameT (encMs a) (encMs b)) w) := by
  obtain ⟨wq, hwq⟩ : ∃ wq, wq = (w.alloc (.cells (msC a).toArray 32)).alloc (.cells (msC b).toArray 32) := ⟨_, rfl⟩
  obtain ⟨HRa, HRb, HLow⟩ := two_boxes a b w wq 32 hwq
  have HCa : Hid (∀ W, Below wq.heap.size wq W → Calls Tryd.prog 18 #[.agg (msC a).toArray] W fun e W' => e = .returned (.string ⟨(encMs a).toArray⟩) ∧ Below wq.heap.size wq W') := Lib.hid (fun W h => (refEncode_any a W (Ms.below ha (HLow.out W h)) sa).mono fun e W' ⟨he, hw⟩ => ⟨he, bon h hw⟩)
  have HCb : Hid (∀ W, Below wq.heap.size wq W → Calls Tryd.prog 18 #[.agg (msC b).toArray] W fun e W' => e = .returned (.string ⟨(encMs b).toArray⟩) ∧ Below wq.heap.size wq W') := Lib.hid (fun W h => (refEncode_any b W (Ms.below hb (HLow.out W h)) sb).mono fun e W' ⟨he, hw⟩ => ⟨he, bon h hw⟩)
  have HWq := Lib.hid hwq
  clear ha hb sa sb hwq
  generalize encMs a = la at HCa ⊢
  generalize encMs b = lb at HCb ⊢
  go_enter Tryd.func12, Tryd.ntmps12
  go_upto_region 1 with fail
  rw [← HWq.out]
  refine wp_region_noPanic ?_
  refine wp_region_held_drew (S := fun W => Below wq.heap.size wq W) (by kernel_rfl) ((Below.refl _ _).drew) (fun hHeld => ?_)
  refine wpAnyH_take (i := 0) (oi := _) rfl (by kernel_rfl) (by kernel_rfl) (by kernel_rfl) (fun _ _ _ h => h) (yieldsIf_load_mid (by rfl) 32 _ (by rfl) _ 0 (by rfl) (msC a) _ HRa.out Tryd.underlying32 rfl (infoMs a)) (by assumption) ?_
  try simp only [Act.put, List.setIfInBounds_toArray, List.set_cons_zero, List.set_cons_succ]
  refine wpAnyH_take (i := 2) (oi := _) rfl (by kernel_rfl) (by kernel_rfl) (by kernel_rfl) (fun _ _ _ h => h) (yieldsIf_load_mid (by rfl) 32 _ (by rfl) _ 0 (by rfl) (msC b) _ HRb.out Tryd.underlying32 rfl (infoMs b)) (by assumption) ?_
  try simp only [Act.put, List.setIfInBounds_toArray, List.set_cons_zero, List.set_cons_succ]
  refine wpAnyH_ready (rs := [1]) (by kernel_rfl) (by simp) ?_
  refine AllReadyH.cons (o := _) rfl (fun K hK => ?_) AllReadyH.nil
  go_simp
  go_at_call 18
  refine (HCa.out _ (by assumption)).mono ?_
  rintro e w4 ⟨rfl, b4⟩
  go_wp2_with fail
  refine hK.out _ _ b4 (fun hHeld => ?_)
  clear hK K
  try simp only [Act.put, List.setIfInBounds_toArray, List.set_cons_zero, List.set_cons_succ]
  refine wpAnyH_ready (rs := [3]) (by kernel_rfl) (by simp) ?_
  refine AllReadyH.cons (o := _) rfl (fun K hK => ?_) AllReadyH.nil
  go_simp
  go_at_call 18
  refine (HCb.out _ (by assumption)).mono ?_
  rintro e w5 ⟨rfl, b5⟩
  go_wp2_with fail
  refine hK.out _ _ b5 (fun hHeld => ?_)
  clear hK K
  try simp only [Act.put, List.setIfInBounds_toArray, List.set_cons_zero, List.set_cons_succ]
  refine wpAnyH_take (i := 4) (oi := _) (v := ?_) rfl (by kernel_rfl) (by kernel_rfl) (by kernel_rfl) (fun _ _ _ h => h) (Or.inl ⟨by rfl, ?_⟩) (by assumption) ?_
  rotate_left
  · intro w hSw; (try dsimp only at hSw); go_simp; try with_reducible rfl
  try simp only [Act.put, List.setIfInBounds_toArray, List.set_cons_zero, List.set_cons_succ]
  refine wpAnyH_ready (rs := [5]) (by kernel_rfl) (by simp) ?_
  refine AllReadyH.cons (o := _) rfl (fun K hK => ?_) AllReadyH.nil
  go_simp
  refine hK.out _ _ b5 (fun hHeld => ?_)
  clear hK K
  try simp only [Act.put, List.setIfInBounds_toArray, List.set_cons_zero, List.set_cons_succ]
  refine wpAnyH_done (by kernel_rfl) ?_ _
  refine NoPanic.normal ?_
  go_wp2_with fail
  go_ret
  exact ret_bl rfl (HLow.out _ b5)

set_option maxRecDepth 100000 in
set_option maxHeartbeats 16000000 in
theorem lawEqual (a b : Ms) (w : World) (he : Env w) (ha : a.ok w) (hb : b.ok w) (sa : a.sz ≤ 16777216) (sb : b.sz ≤ 16777216) : Calls Tryd.prog 4 #[.agg (msC a).toArray, .agg (msC b).toArray] w (RetBool true w) := by
  obtain ⟨wq, hwq⟩ : ∃ wq, wq = (w.alloc (.cells (msC a).toArray 32)).alloc (.cells (msC b).toArray 32) := ⟨_, rfl⟩
  obtain ⟨HRa, HRb, HLow⟩ := two_boxes a b w wq 32 hwq
  have HA : Hid (∀ W, Below wq.heap.size wq W → Calls Tryd.prog 6 #[] W fun e W' => e = .returned (.bool true) ∧ Below wq.heap.size wq W') := Lib.hid (fun W h => (awake_any W (he.below (HLow.out W h))).mono fun e W' ⟨he, hw⟩ => ⟨he, bon h hw⟩)
  have HFa : Hid (∀ W, Below wq.heap.size wq W → Calls Tryd.prog 7 #[.agg (msC a).toArray] W fun e W' => e = .returned (.bool (fewB a)) ∧ Below wq.heap.size wq W') := Lib.hid (fun W h => (few_any a W (Ms.below ha (HLow.out W h)) sa).mono fun e W' ⟨he, hw⟩ => ⟨he, bon h hw⟩)
  have HFb : Hid (∀ W, Below wq.heap.size wq W → Calls Tryd.prog 7 #[.agg (msC b).toArray] W fun e W' => e = .returned (.bool (fewB b)) ∧ Below wq.heap.size wq W') := Lib.hid (fun W h => (few_any b W (Ms.below hb (HLow.out W h)) sb).mono fun e W' ⟨he, hw⟩ => ⟨he, bon h hw⟩)
  have HEa : Hid (∀ W, Below wq.heap.size wq W → Calls Tryd.prog 10 #[.agg (msC a).toArray] W fun e W' => e = .returned (.tuple #[.string ⟨(enc0 a).toArray⟩, .int .i64 (vMs a)]) ∧ Below wq.heap.size wq W') := Lib.hid (fun W h => (encode_any a W (Ms.below ha (HLow.out W h)) sa).mono fun e W' ⟨he, hw⟩ => ⟨he, bon h hw⟩)
  have HEb : Hid (∀ W, Below wq.heap.size wq W → Calls Tryd.prog 10 #[.agg (msC b).toArray] W fun e W' => e = .returned (.tuple #[.string ⟨(enc0 b).toArray⟩, .int .i64 (vMs b)]) ∧ Below wq.heap.size wq W') := Lib.hid (fun W h => (encode_any b W (Ms.below hb (HLow.out W h)) sb).mono fun e W' ⟨he, hw⟩ => ⟨he, bon h hw⟩)
  have HQ : Hid (∀ W, Below wq.heap.size wq W → Calls Tryd.prog 11 #[.agg (msC a).toArray, .agg (msC b).toArray] W fun e W' => e = .returned (.bool (sameT (encMs a) (encMs b))) ∧ Below wq.heap.size wq W') := Lib.hid (fun W h => (msgEqual_any a b W (Ms.below ha (HLow.out W h)) (Ms.below hb (HLow.out W h)) sa sb).mono fun e W' ⟨he, hw⟩ => ⟨he, bon h hw⟩)
  have HP : Hid (∀ W, Below wq.heap.size wq W → Calls Tryd.prog 12 #[.agg (msC a).toArray, .agg (msC b).toArray] W fun e W' => e = .returned (.bool (sameT (encMs a) (encMs b))) ∧ Below wq.heap.size wq W') := Lib.hid (fun W h => (refEqual_any a b W (Ms.below ha (HLow.out W h)) (Ms.below hb (HLow.out W h)) sa sb).mono fun e W' ⟨he, hw⟩ => ⟨he, bon h hw⟩)
  have HS : Hid (∀ W, Below wq.heap.size wq W → Calls Tryd.prog 11 #[.agg (msC a).toArray, .agg (msC a).toArray] W fun e W' => e = .returned (.bool true) ∧ Below wq.heap.size wq W') := Lib.hid (fun W h => (msgEqual_any a a W (Ms.below ha (HLow.out W h)) (Ms.below ha (HLow.out W h)) sa sa).mono fun e W' ⟨he, hw⟩ => ⟨by rw [he, sameT_self], bon h hw⟩)
  have HWq := Lib.hid hwq
  have HSame : Hid (vMs a = 0 → vMs b = 0 → (enc0 a == enc0 b) = sameT (encMs a) (encMs b)) := Lib.hid (fun h1 h2 => by unfold enc0 sameT; rw [if_pos h1, if_pos h2])
  clear ha hb sa sb hwq he
  have H0 := Lib.hid (Below.refl wq.heap.size wq)
  go_enter Tryd.func4, Tryd.ntmps4
  go_upto_region 1 with fail
  rw [← HWq.out]
  generalize sameT (encMs a) (encMs b) = q at HQ HP HSame
  go_wp2_with fail
  refine (HA.out _ H0.out).mono ?_
  rintro e w1 ⟨rfl, b1⟩
  have B1 := Lib.hid b1
  clear b1
  go_wp2_with (refine wpList_load_wanted (by rfl) 32 _ rfl _ 0 rfl (msC a) _ (HRa.out _ B1.out) Tryd.underlying32 rfl (infoMs a) ?_)
  refine (HFa.out _ B1.out).mono ?_
  rintro e w2 ⟨rfl, b2⟩
  have B2 := Lib.hid b2
  clear b2
  cases hf : fewB a with
  | false =>
    clear hf
    go_wp2_with fail
    refine (HA.out _ B2.out).mono ?_
    rintro e w3 ⟨rfl, b3⟩
    have B3 := Lib.hid (HLow.out _ b3)
    clear b3
    go_wp2_with fail
    go_ret
    exact ret_bl rfl B3.out
  | true =>
    clear hf
    go_wp2_with (refine wpList_load_wanted (by rfl) 32 _ rfl _ 0 rfl (msC b) _ (HRb.out _ B2.out) Tryd.underlying32 rfl (infoMs b) ?_)
    refine (HFb.out _ B2.out).mono ?_
    rintro e w3 ⟨rfl, b3⟩
    have B3 := Lib.hid b3
    clear b3
    cases hf : fewB b with
    | false =>
      clear hf
      go_wp2_with fail
      refine (HA.out _ B3.out).mono ?_
      rintro e w4 ⟨rfl, b4⟩
      have B4 := Lib.hid (HLow.out _ b4)
      clear b4
      go_wp2_with fail
      go_ret
      exact ret_bl rfl B4.out
    | true =>
      clear hf
      go_upto_region 3 with fail
      go_wp2_with (refine wpList_load_mid rfl 32 _ rfl _ 0 rfl (msC a) _ (HRa.out _ B3.out) Tryd.underlying32 rfl (infoMs a) ?_)
      refine (HEa.out _ B3.out).mono ?_
      rintro e w4 ⟨rfl, b4⟩
      have B4 := Lib.hid b4
      clear b4
      go_wp2_with (refine wpList_load_mid rfl 32 _ rfl _ 0 rfl (msC b) _ (HRb.out _ B4.out) Tryd.underlying32 rfl (infoMs b) ?_)
      refine (HEb.out _ B4.out).mono ?_
      rintro e w5 ⟨rfl, b5⟩
      have B5 := Lib.hid b5
      clear b5
      go_wp2_with (first | (refine wpList_load_mid rfl 32 _ rfl w.heap.size 0 rfl (msC a) _ (HRa.out _ B5.out) Tryd.underlying32 rfl (infoMs a) ?_) | (refine wpList_load_mid rfl 32 _ rfl (w.heap.size + 1) 0 rfl (msC b) _ (HRb.out _ B5.out) Tryd.underlying32 rfl (infoMs b) ?_))
      refine (HQ.out _ B5.out).mono ?_
      rintro e w6 ⟨rfl, b6⟩
      have B6 := Lib.hid b6
      clear b6
      go_wp2_with (first | (refine wpList_load_mid rfl 32 _ rfl w.heap.size 0 rfl (msC a) _ (HRa.out _ B6.out) Tryd.underlying32 rfl (infoMs a) ?_) | (refine wpList_load_mid rfl 32 _ rfl (w.heap.size + 1) 0 rfl (msC b) _ (HRb.out _ B6.out) Tryd.underlying32 rfl (infoMs b) ?_))
      refine (HP.out _ B6.out).mono ?_
      rintro e w7 ⟨rfl, b7⟩
      have B7 := Lib.hid b7
      clear b7
      have hqq : (q == q) = true := by simp
      have HS7 := Lib.hid (HS.out _ B7.out)
      go_wp2_with (refine wpList_load_wanted (by rfl) 32 _ rfl _ 0 rfl (msC a) _ (HRa.out _ B7.out) Tryd.underlying32 rfl (infoMs a) ?_)
      refine HS7.out.mono ?_
      rintro e w8 ⟨rfl, b8⟩
      have B8 := Lib.hid (HLow.out _ b8)
      clear b8 hqq
      by_cases va : vMs a = 0
      · have va1 : (vMs a != 0) = false := by simp [va]
        by_cases vb : vMs b = 0
        · have vb1 : (vMs b != 0) = false := by simp [vb]
          have hs := HSame.out va vb
          clear va vb
          generalize enc0 a = ea at hs ⊢
          generalize enc0 b = eb at hs ⊢
          go_wp2_with fail
          go_ret
          exact ret_bl (by simp) B8.out
        · have vb1 : (vMs b != 0) = true := by simp [vb]
          clear va vb
          go_wp2_with fail
          go_ret
          exact ret_bl rfl B8.out
      · have va1 : (vMs a != 0) = true := by simp [va]
        clear va
        go_wp2_with fail
        go_ret
        exact ret_bl rfl B8.out
end Go.Proofs.YtoehakekjlebdaaDoor
