/- message.readStatus. -/
import Derived.Test.YtoehakekjlebdaaGreatDoorZSb
namespace Go.Proofs.YtoehakekjlebdaaGreatDoor
open Go.RowKit

theorem infoStn (x : St) : (Tryz.prog.info? 26).map (·.size) = some (stC x).length := by
  have : (Tryz.prog.info? 26).map (·.size) = some 12 := by kernel_rfl
  exact this
theorem stC_one' (x : St) : (stC x).toArray.all (·.oneCell') = true := by simp [stC, Sl.v, Value.oneCell']
set_option maxRecDepth 100000 in
set_option maxHeartbeats 2000000 in
theorem readStatus_any (g : Nat) (s : Sc) (w : World) (hs : Ss w g s) (hl : s.rest.length ≤ 268435456) :
    Calls Tryz.prog 30 #[.pointer (some ⟨g, 0, none⟩)] w (RetX stC St.er St.ok g (tkSt s) w) := by
  have hgl := hs.lt
  have HTn := tkInts_ok 4 s
  obtain ⟨n0, n1, n2, n3, hn⟩ := four_of _ HTn.1
  obtain ⟨s0, hs0⟩ : ∃ s0, s0 = (tkInts 4 s).2 := ⟨_, rfl⟩
  have HT0 : Hid (tkInts 4 s = ([n0, n1, n2, n3], s0)) := Lib.hid (by rw [hs0, ← hn])
  have HN64 : Hid (∀ x ∈ [n0, n1, n2, n3], I64 x) := Lib.hid (by rw [← hn]; exact HTn.2)
  have HL0 : Hid (s0.rest.length ≤ 268435456) := Lib.hid (by rw [hs0]; exact Nat.le_trans (tkInts_rest 4 s) hl)
  clear HTn hn hs0
  obtain ⟨t1, s1, ht1⟩ : ∃ t s', tkText s0 = (t, s') := ⟨_, _, rfl⟩
  have HL1 : Hid (s1.rest.length ≤ 268435456) := Lib.hid (by have h9 := ag_text.len s0; rw [ht1] at h9; exact Nat.le_trans h9 HL0.out)
  have HTL1 : Hid (t1.length ≤ 268435456) := Lib.hid (by have h9 := tkText_sz s0; rw [ht1] at h9; have h8 := HL0.out; simp only at h9; omega)
  have HT1 := Lib.hid ht1
  clear ht1
  obtain ⟨t2, s2, ht2⟩ : ∃ t s', tkParts tkSg s1 = (t, s') := ⟨_, _, rfl⟩
  have HL2 : Hid (s2.rest.length ≤ 268435456) := Lib.hid (by have h9 := (ag_parts ag_sg).len s1; rw [ht2] at h9; exact Nat.le_trans h9 HL1.out)
  have HT2 := Lib.hid ht2
  clear ht2
  obtain ⟨t3, s3, ht3⟩ : ∃ t s', tkText s2 = (t, s') := ⟨_, _, rfl⟩
  have HL3 : Hid (s3.rest.length ≤ 268435456) := Lib.hid (by have h9 := ag_text.len s2; rw [ht3] at h9; exact Nat.le_trans h9 HL2.out)
  have HTL3 : Hid (t3.length ≤ 268435456) := Lib.hid (by have h9 := tkText_sz s2; rw [ht3] at h9; have h8 := HL2.out; simp only at h9; omega)
  have HT3 := Lib.hid ht3
  clear ht3
  obtain ⟨t4, s4, ht4⟩ : ∃ t s', tkPart tkSg t3 s3 = (t, s') := ⟨_, _, rfl⟩
  have HL4 : Hid (s4.rest.length ≤ 268435456) := Lib.hid (by have h9 := part_len tkSg t3 s3; rw [ht4] at h9; exact Nat.le_trans h9 HL3.out)
  have HT4 := Lib.hid ht4
  clear ht4
  have HSpec : Hid (tkSt s = (⟨n0, n1, n2, n3, t1, Sl.of t2, t4⟩, s4)) := Lib.hid (by
    unfold tkSt tkOne tkThen tkRet
    simp only [HT0.out, HT1.out, HT2.out, HT3.out, HT4.out]
    rfl)
  have HVw := Lib.hid (Vr.new w [.int .i64 0, .int .i64 0, .int .i64 0, .int .i64 0, .string ⟨#[]⟩, .slice none 0 0, .int .i64 0, .int .i64 0, .int .i64 0, .int .i64 0, .string ⟨#[]⟩, .string ⟨#[]⟩] 26)
  have HSw := Lib.hid ((SsTo.refl hs).alloc (.cells #[.int .i64 0, .int .i64 0, .int .i64 0, .int .i64 0, .string ⟨#[]⟩, .slice none 0 0, .int .i64 0, .int .i64 0, .int .i64 0, .int .i64 0, .string ⟨#[]⟩, .string ⟨#[]⟩] 26))
  have hzd : (w.alloc (.cells #[.int .i64 0, .int .i64 0, .int .i64 0, .int .i64 0, .string ⟨#[]⟩, .slice none 0 0, .int .i64 0, .int .i64 0, .int .i64 0, .int .i64 0, .string ⟨#[]⟩, .string ⟨#[]⟩] 26)).heap.size = w.heap.size + 1 := by simp
  have HZd := Lib.hid hzd
  clear hs hzd
  go_enter Tryz.func30, Tryz.ntmps30
  go_wp2_with fail
  refine (ints4_any g s _ HSw.out.2 (Nat.le_trans hl (by decide))).mono ?_
  rintro e w0 ⟨A, c, he, hst0, hss0⟩
  rw [HT0.out] at he hst0 hss0
  obtain rfl : e = .returned (.slice A 4 c) := he
  simp only at hss0
  rw [HZd.out] at hst0
  have h0 := hss0.1.size
  rw [HZd.out] at h0
  have HS0 : Hid (SsTo w g s0 w0.drew) := Lib.hid ((HSw.out.trans hss0).below (Below.refl _ _).drew)
  have HV := Lib.hid ((HVw.out.grown hss0.1 (by omega)).below (Below.refl _ _).drew)
  have HR0 := Lib.hid (hst0.on (keeps_below _ (Below.refl _ _).drew))
  clear hss0 hst0 HSw HVw HZd
  go_wp2_with fail
  refine wp_region_noPanic ?_
  have h0d : w.heap.size + 1 ≤ w0.drew.heap.size := h0
  generalize hv0 : w0.drew = v0 at HS0 HV HR0 h0d
  obtain ⟨b, off, hA, hbl, hcc⟩ := ints_cells HR0.out.out (by simp)
  subst hA
  have HCW : Hid (∀ W, Keeps (w.heap.size + 1) v0 W → W.cell? ⟨b, off, none⟩ = some (.int .i64 n0) ∧ W.cell? ⟨b, off + 1, none⟩ = some (.int .i64 n1) ∧ W.cell? ⟨b, off + 2, none⟩ = some (.int .i64 n2) ∧ W.cell? ⟨b, off + 3, none⟩ = some (.int .i64 n3)) := Lib.hid (fun W hW => by
    obtain ⟨b2, o2, hA2, _, hc2⟩ := ints_cells (HR0.out W hW) (by simp)
    simp only [Option.some.injEq, Addr.mk.injEq] at hA2
    obtain ⟨rfl, rfl, _⟩ := hA2
    exact ⟨hc2 0 _ rfl, hc2 1 _ rfl, hc2 2 _ rfl, hc2 3 _ rfl⟩)
  have HK := Lib.hid (Keeps.refl (w.heap.size + 1) v0)
  have hC := HCW.out v0 HK.out
  clear hcc hbl HR0
  refine wp_region_held_drew (S := fun W => W.cell? ⟨b, off, none⟩ = some (.int .i64 n0) ∧ W.cell? ⟨b, off + 1, none⟩ = some (.int .i64 n1) ∧ W.cell? ⟨b, off + 2, none⟩ = some (.int .i64 n2) ∧ W.cell? ⟨b, off + 3, none⟩ = some (.int .i64 n3)) (by kernel_rfl) (by rw [hv0]; exact hC) (fun hHeld => ?_)
  rw [hv0] at hHeld ⊢
  clear hv0
  have hHeld2 := hC
  refine wpAnyH_take (i := 0) (oi := _) (v := ?_) rfl (by kernel_rfl) (by kernel_rfl) (by kernel_rfl) (fun _ _ _ h => h) (Or.inl ⟨by rfl, ?_⟩) (by assumption) ?_
  rotate_left
  · intro W hSw; (try dsimp only at hSw); go_simp; try with_reducible rfl
  try simp only [Act.put, List.setIfInBounds_toArray]
  refine wpAnyH_take (i := 1) (oi := _) (v := ?_) rfl (by kernel_rfl) (by kernel_rfl) (by kernel_rfl) (fun _ _ _ h => h) (Or.inl ⟨by rfl, ?_⟩) (by assumption) ?_
  rotate_left
  · intro W hSw; (try dsimp only at hSw); go_simp; try with_reducible rfl
  try simp only [Act.put]
  refine wpAnyH_take (i := 2) (oi := _) (v := ?_) rfl (by kernel_rfl) (by kernel_rfl) (by kernel_rfl) (fun _ _ _ h => h) (Or.inl ⟨by rfl, ?_⟩) (by assumption) ?_
  rotate_left
  · intro W hSw; (try dsimp only at hSw); go_simp; try with_reducible rfl
  try simp only [Act.put]
  refine wpAnyH_take (i := 3) (oi := _) (v := ?_) rfl (by kernel_rfl) (by kernel_rfl) (by kernel_rfl) (fun _ _ _ h => h) (Or.inl ⟨by rfl, ?_⟩) (by assumption) ?_
  rotate_left
  · intro W hSw; (try dsimp only at hSw); go_simp; try with_reducible rfl
  try simp only [Act.put]
  refine wpAnyH_take (i := 4) (oi := _) (v := ?_) rfl (by kernel_rfl) (by kernel_rfl) (by kernel_rfl) (fun _ _ _ h => h) (Or.inl ⟨by rfl, ?_⟩) (by assumption) ?_
  rotate_left
  · intro W hSw; (try dsimp only at hSw); go_simp; try with_reducible rfl
  try simp only [Act.put]
  refine wpAnyH_take (i := 5) (oi := _) (v := ?_) rfl (by kernel_rfl) (by kernel_rfl) (by kernel_rfl) (fun _ _ _ h => h) (Or.inl ⟨by rfl, ?_⟩) (by assumption) ?_
  rotate_left
  · intro W hSw; (try dsimp only at hSw); go_simp; try with_reducible rfl
  try simp only [Act.put]
  refine wpAnyH_take (i := 6) (oi := _) (v := ?_) rfl (by kernel_rfl) (by kernel_rfl) (by kernel_rfl) (fun _ _ _ h => h) (Or.inl ⟨by rfl, ?_⟩) (by assumption) ?_
  rotate_left
  · intro W hSw; (try dsimp only at hSw); go_simp; try with_reducible rfl
  try simp only [Act.put]
  refine wpAnyH_take (i := 7) (oi := _) (v := ?_) rfl (by kernel_rfl) (by kernel_rfl) (by kernel_rfl) (fun _ _ _ h => h) (Or.inl ⟨by rfl, ?_⟩) (by assumption) ?_
  rotate_left
  · intro W hSw; (try dsimp only at hSw); go_simp; try with_reducible rfl
  try simp only [Act.put]
  refine wpAnyH_take (i := 8) (oi := _) (v := ?_) rfl (by kernel_rfl) (by kernel_rfl) (by kernel_rfl) (fun _ _ _ h => h) (Or.inl ⟨by rfl, ?_⟩) (by assumption) ?_
  rotate_left
  · intro W hSw; (try dsimp only at hSw); go_simp; try with_reducible rfl
  try simp only [Act.put]
  refine wpAnyH_take (i := 9) (oi := _) (v := ?_) rfl (by kernel_rfl) (by kernel_rfl) (by kernel_rfl) (fun _ _ _ h => h) (Or.inl ⟨by rfl, ?_⟩) (by assumption) ?_
  rotate_left
  · intro W hSw; (try dsimp only at hSw); go_simp; try with_reducible rfl
  try simp only [Act.put]
  refine wpAnyH_take (i := 10) (oi := _) (v := ?_) rfl (by kernel_rfl) (by kernel_rfl) (by kernel_rfl) (fun _ _ _ h => h) (Or.inl ⟨by rfl, ?_⟩) (by assumption) ?_
  rotate_left
  · intro W hSw; (try dsimp only at hSw); go_simp; try with_reducible rfl
  try simp only [Act.put]
  refine wpAnyH_take (i := 11) (oi := _) (v := ?_) rfl (by kernel_rfl) (by kernel_rfl) (by kernel_rfl) (fun _ _ _ h => h) (Or.inl ⟨by rfl, ?_⟩) (by assumption) ?_
  rotate_left
  · intro W hSw; (try dsimp only at hSw); go_simp; try with_reducible rfl
  try simp only [Act.put]
  refine wpAnyH_take (i := 12) (oi := _) (v := ?_) rfl (by kernel_rfl) (by kernel_rfl) (by kernel_rfl) (fun _ _ _ h => h) (Or.inl ⟨by rfl, ?_⟩) (by assumption) ?_
  rotate_left
  · intro W hSw; (try dsimp only at hSw); go_simp; try with_reducible rfl
  try simp only [Act.put]
  refine wpAnyH_take (i := 14) (oi := _) (v := ?_) rfl (by kernel_rfl) (by kernel_rfl) (by kernel_rfl) (fun _ _ _ h => h) (Or.inl ⟨by rfl, ?_⟩) (by assumption) ?_
  rotate_left
  · intro W hSw; (try dsimp only at hSw); go_simp; try with_reducible rfl
  try simp only [Act.put]
  refine wpAnyH_ready (rs := [13, 17]) (by kernel_rfl) (by simp) ?_
  refine AllReadyH.cons (o := _) rfl (fun K hK => ?_) ?_
  · go_simp
    go_at_call 66
    refine (text_any g s0 _ (HS0.out.2) (Nat.le_trans HL0.out (by decide))).mono ?_
    rintro e v1 ⟨rfl, hss1⟩
    rw [show tkText s0 = (t1, s1) from HT1.out] at hss1 ⊢
    simp only at hss1 ⊢
    have hz := hss1.1.size
    have HS1 : Hid (SsTo w g s1 v1) := Lib.hid (HS0.out.trans hss1)
    have HV : Hid (Vr v1 w.heap.size [.int .i64 0, .int .i64 0, .int .i64 0, .int .i64 0, .string ⟨#[]⟩, .slice none 0 0, .int .i64 0, .int .i64 0, .int .i64 0, .int .i64 0, .string ⟨#[]⟩, .string ⟨#[]⟩]) := Lib.hid (HV.out.grown hss1.1 (by omega))
    have HK : Hid (Keeps (w.heap.size + 1) v0 v1) := Lib.hid (HK.out.trans (keeps_grown hss1.1 (by omega)))
    have hC := HCW.out v1 HK.out
    have hsv1 : v0.heap.size ≤ v1.heap.size := hz
    clear hss1 hz
    go_wp2_with fail
    refine hK.out _ _ hC (fun hHeld => ?_)
    clear hK K
    try simp only [Act.put, List.setIfInBounds_toArray, List.set_cons_zero, List.set_cons_succ]
    refine wpAnyH_ready (rs := [15, 17]) (by kernel_rfl) (by simp) ?_
    refine AllReadyH.cons (o := _) rfl (fun K hK => ?_) ?_
    · go_simp
      go_at_call 67
      refine (partsSg_any g s1 _ (HS1.out.2) HL1.out (fun t ht q W hW => signature_x q ⟨t, false⟩ W hW (Nat.le_trans (Nat.le_trans ht HL1.out) (by decide)))).mono ?_
      rintro e v2 ⟨x2, rfl, hx2, hst2, hss2⟩
      rw [show tkParts tkSg s1 = (t2, s2) from HT2.out] at hss2 hx2
      simp only at hss2 hx2
      have HX2 := Lib.hid hx2
      clear hx2
      have hz := hss2.1.size
      have HS2 : Hid (SsTo w g s2 v2) := Lib.hid (HS1.out.trans hss2)
      have HV : Hid (Vr v2 w.heap.size [.int .i64 0, .int .i64 0, .int .i64 0, .int .i64 0, .string ⟨#[]⟩, .slice none 0 0, .int .i64 0, .int .i64 0, .int .i64 0, .int .i64 0, .string ⟨#[]⟩, .string ⟨#[]⟩]) := Lib.hid (HV.out.grown hss2.1 (by omega))
      have HK : Hid (Keeps (w.heap.size + 1) v0 v2) := Lib.hid (HK.out.trans (keeps_grown hss2.1 (by omega)))
      have hC := HCW.out v2 HK.out
      have hsv2 : v1.heap.size ≤ v2.heap.size := hz
      have HR2 := Lib.hid (hst2)
      clear hst2
      clear hss2 hz
      go_wp2_with fail
      refine hK.out _ _ hC (fun hHeld => ?_)
      clear hK K
      try simp only [Act.put, List.setIfInBounds_toArray, List.set_cons_zero, List.set_cons_succ]
      refine wpAnyH_take (i := 16) (oi := _) (v := ?_) rfl (by kernel_rfl) (by kernel_rfl) (by kernel_rfl) (fun _ _ _ h => h) (Or.inl ⟨by rfl, ?_⟩) (by assumption) ?_
      rotate_left
      · intro W hSw; (try dsimp only at hSw); go_simp; try with_reducible rfl
      try simp only [Act.put, List.setIfInBounds_toArray]
      refine wpAnyH_ready (rs := [17]) (by kernel_rfl) (by simp) ?_
      refine AllReadyH.cons (o := _) rfl (fun K hK => ?_) AllReadyH.nil
      go_simp
      have HVp := HV
      have HKp := HK
      have HV : Hid (Vr (v2.alloc (.cells #[.int .i64 0, .int .i64 0, .int .i64 0, .int .i64 0, .string ⟨#[]⟩, .slice none 0 0, .int .i64 0, .int .i64 0, .int .i64 0, .int .i64 0, .string ⟨#[]⟩, .string ⟨#[]⟩] 26)) w.heap.size [.int .i64 0, .int .i64 0, .int .i64 0, .int .i64 0, .string ⟨#[]⟩, .slice none 0 0, .int .i64 0, .int .i64 0, .int .i64 0, .int .i64 0, .string ⟨#[]⟩, .string ⟨#[]⟩]) := Lib.hid (HV.out.below (below_new _ _))
      have HX : Hid (Vr (v2.alloc (.cells #[.int .i64 0, .int .i64 0, .int .i64 0, .int .i64 0, .string ⟨#[]⟩, .slice none 0 0, .int .i64 0, .int .i64 0, .int .i64 0, .int .i64 0, .string ⟨#[]⟩, .string ⟨#[]⟩] 26)) v2.heap.size [.int .i64 0, .int .i64 0, .int .i64 0, .int .i64 0, .string ⟨#[]⟩, .slice none 0 0, .int .i64 0, .int .i64 0, .int .i64 0, .int .i64 0, .string ⟨#[]⟩, .string ⟨#[]⟩]) := Lib.hid (Vr.new _ _ _)
      have HS2 : Hid (SsTo w g s2 (v2.alloc (.cells #[.int .i64 0, .int .i64 0, .int .i64 0, .int .i64 0, .string ⟨#[]⟩, .slice none 0 0, .int .i64 0, .int .i64 0, .int .i64 0, .int .i64 0, .string ⟨#[]⟩, .string ⟨#[]⟩] 26))) := Lib.hid (HS2.out.alloc _)
      have HK : Hid (Keeps (w.heap.size + 1) v0 (v2.alloc (.cells #[.int .i64 0, .int .i64 0, .int .i64 0, .int .i64 0, .string ⟨#[]⟩, .slice none 0 0, .int .i64 0, .int .i64 0, .int .i64 0, .int .i64 0, .string ⟨#[]⟩, .string ⟨#[]⟩] 26))) := Lib.hid (HK.out.trans (keeps_below _ (below_new _ _)))
      have hb4a : w.heap.size < v2.heap.size := HVp.out.lt
      have hv0b : v0.heap.size ≤ v2.heap.size := HKp.out.1
      have hzz : (v2.alloc (.cells #[.int .i64 0, .int .i64 0, .int .i64 0, .int .i64 0, .string ⟨#[]⟩, .slice none 0 0, .int .i64 0, .int .i64 0, .int .i64 0, .int .i64 0, .string ⟨#[]⟩, .string ⟨#[]⟩] 26)).heap.size = v2.heap.size + 1 := by simp
      have HR2 := Lib.hid ((held_new (a := w.heap.size + 1) (b4 := v2.heap.size) HR2.out (by omega) (Or.inr (Nat.le_refl _))).below (below_new v2 (.cells #[.int .i64 0, .int .i64 0, .int .i64 0, .int .i64 0, .string ⟨#[]⟩, .slice none 0 0, .int .i64 0, .int .i64 0, .int .i64 0, .int .i64 0, .string ⟨#[]⟩, .string ⟨#[]⟩] 26)))
      generalize hvv : v2.alloc (.cells #[.int .i64 0, .int .i64 0, .int .i64 0, .int .i64 0, .string ⟨#[]⟩, .slice none 0 0, .int .i64 0, .int .i64 0, .int .i64 0, .int .i64 0, .string ⟨#[]⟩, .string ⟨#[]⟩] 26) = v3 at HV HX HS2 HK hzz HR2 ⊢
      have hsv3 : v2.heap.size ≤ v3.heap.size := by omega
      generalize hb4e : v2.heap.size = b4 at HX hb4a hv0b hzz hsv3 HR2 ⊢
      have hb4 : b4 < v3.heap.size := by omega
      have hv0c : v0.heap.size ≤ b4 := by omega
      clear hvv hb4e hzz HVp HKp
      have hC := HCW.out v3 HK.out
      refine hK.out _ _ hC (fun hHeld => ?_)
      clear hK K
      try simp only [Act.put, List.setIfInBounds_toArray, List.set_cons_zero, List.set_cons_succ]
      refine wpAnyH_ready (rs := [18]) (by kernel_rfl) (by simp) ?_
      refine AllReadyH.cons (o := _) rfl (fun K hK => ?_) AllReadyH.nil
      rw [if_pos (by rfl)]
      refine wp_store_mid 26 _ _ rfl b4 0 (stC ⟨n0, n1, n2, n3, t1, x2, sg0⟩).toArray rfl rfl (HX.out.there rfl) (infoStn ⟨n0, n1, n2, n3, t1, x2, sg0⟩) (stC_one' ⟨n0, n1, n2, n3, t1, x2, sg0⟩) ?_
      have HS : Hid (SsTo w g s2 (v3.setCells b4 0 (stC ⟨n0, n1, n2, n3, t1, x2, sg0⟩))) := Lib.hid (HS2.out.own (grown_vs (b := b4) (stC ⟨n0, n1, n2, n3, t1, x2, sg0⟩)) (by omega) (by omega))
      have HV : Hid (Vr (v3.setCells b4 0 (stC ⟨n0, n1, n2, n3, t1, x2, sg0⟩)) w.heap.size [.int .i64 0, .int .i64 0, .int .i64 0, .int .i64 0, .string ⟨#[]⟩, .slice none 0 0, .int .i64 0, .int .i64 0, .int .i64 0, .int .i64 0, .string ⟨#[]⟩, .string ⟨#[]⟩]) := Lib.hid (HV.out.grown (grown_vs (b := b4) (stC ⟨n0, n1, n2, n3, t1, x2, sg0⟩)) (by omega))
      have HX : Hid (Vr (v3.setCells b4 0 (stC ⟨n0, n1, n2, n3, t1, x2, sg0⟩)) b4 (stC ⟨n0, n1, n2, n3, t1, x2, sg0⟩)) := Lib.hid (HX.out.sets (stC ⟨n0, n1, n2, n3, t1, x2, sg0⟩) rfl)
      have hC : (v3.setCells b4 0 (stC ⟨n0, n1, n2, n3, t1, x2, sg0⟩)).cell? ⟨b, off, none⟩ = some (.int .i64 n0) ∧ (v3.setCells b4 0 (stC ⟨n0, n1, n2, n3, t1, x2, sg0⟩)).cell? ⟨b, off + 1, none⟩ = some (.int .i64 n1) ∧ (v3.setCells b4 0 (stC ⟨n0, n1, n2, n3, t1, x2, sg0⟩)).cell? ⟨b, off + 2, none⟩ = some (.int .i64 n2) ∧ (v3.setCells b4 0 (stC ⟨n0, n1, n2, n3, t1, x2, sg0⟩)).cell? ⟨b, off + 3, none⟩ = some (.int .i64 n3) := HCW.out _ (keeps_row2 HK.out (grown_vs (b := b4) (stC ⟨n0, n1, n2, n3, t1, x2, sg0⟩)) (Or.inr (by omega)))
      have HR2 := Lib.hid (HR2.out.row (grown_vs (b := b4) (stC ⟨n0, n1, n2, n3, t1, x2, sg0⟩)) (Or.inr rfl))
      refine hK.out _ _ hC (fun hHeld => ?_)
      clear hK K
      try simp only [Act.put, List.setIfInBounds_toArray]
      refine wpAnyH_done (by kernel_rfl) ?_ _
      refine NoPanic.normal ?_
      try simp only [List.toList_toArray]
      generalize v3.setCells b4 0 (stC ⟨n0, n1, n2, n3, t1, x2, sg0⟩) = u0 at HS HV HX HR2 ⊢
      clear hC hHeld2 HK
      go_wp2_with fail
      refine (text_any g s2 _ HS.out.2 (Nat.le_trans HL2.out (by decide))).mono ?_
      rintro e u1 ⟨rfl, hss⟩
      rw [show tkText s2 = (t3, s3) from HT3.out] at hss ⊢
      simp only at hss ⊢
      have hsz1 := hss.1.size
      have HV : Hid (Vr u1 w.heap.size [.int .i64 0, .int .i64 0, .int .i64 0, .int .i64 0, .string ⟨#[]⟩, .slice none 0 0, .int .i64 0, .int .i64 0, .int .i64 0, .int .i64 0, .string ⟨#[]⟩, .string ⟨#[]⟩]) := Lib.hid (HV.out.grown hss.1 (by omega))
      have HX := Lib.hid (HX.out.grown hss.1 (by omega))
      have HR2 := Lib.hid (HR2.out.row hss.1 (Or.inl (by omega)))
      have HS : Hid (SsTo w g s3 u1) := Lib.hid (HS.out.trans hss)
      clear hss
      go_wp2_with fail
      refine (partSg_any g s3 t3 _ HS.out.2 (fun q W hW => signature_x q ⟨t3, false⟩ W hW (Nat.le_trans HTL3.out (by decide)))).mono ?_
      rintro e u2 ⟨x4, he, hx, hst4, hss⟩
      obtain rfl : e = .returned (.agg #[.int .i64 x4.server, .int .i64 x4.kind, .int .i64 x4.view, .int .i64 x4.slot, .string ⟨x4.digest.toArray⟩, .string ⟨x4.sig.toArray⟩]) := he
      rw [show tkPart tkSg t3 s3 = (t4, s4) from HT4.out] at hss hx
      simp only at hss hx
      have HX4 := Lib.hid hx
      clear hx
      have HR4 := Lib.hid (held_new (a := w.heap.size + 1) (b4 := b4) hst4 (by have := HX.out.lt; omega) (Or.inl (by have := HX.out.lt; omega)))
      have hsz2 := hss.1.size
      have HV : Hid (Vr u2 w.heap.size [.int .i64 0, .int .i64 0, .int .i64 0, .int .i64 0, .string ⟨#[]⟩, .slice none 0 0, .int .i64 0, .int .i64 0, .int .i64 0, .int .i64 0, .string ⟨#[]⟩, .string ⟨#[]⟩]) := Lib.hid (HV.out.grown hss.1 (by omega))
      have HX := Lib.hid (HX.out.grown hss.1 (by omega))
      have HR2 := Lib.hid (HR2.out.row hss.1 (Or.inl (by omega)))
      have HS : Hid (SsTo w g s4 u2) := Lib.hid (HS.out.trans hss)
      clear hss hst4
      go_upto_region 4 with (refine wpList_store_mid rfl 24 _ _ rfl b4 6 (sgC x4).toArray rfl rfl (HX.out.there_at 6 6 (of_decide_eq_true rfl)) (infoSgN x4) (sgC_one x4) ?_)
      try simp only [List.toList_toArray]
      have HS : Hid (SsTo w g s4 (u2.setCells b4 6 (sgC x4))) := Lib.hid (HS.out.own (grown_vs_at (b := b4) (o := 6) (sgC x4)) (by omega) (by omega))
      have HV : Hid (Vr (u2.setCells b4 6 (sgC x4)) w.heap.size [.int .i64 0, .int .i64 0, .int .i64 0, .int .i64 0, .string ⟨#[]⟩, .slice none 0 0, .int .i64 0, .int .i64 0, .int .i64 0, .int .i64 0, .string ⟨#[]⟩, .string ⟨#[]⟩]) := Lib.hid (HV.out.grown (grown_vs_at (b := b4) (o := 6) (sgC x4)) (by omega))
      have HX : Hid (Vr (u2.setCells b4 6 (sgC x4)) b4 (stC ⟨n0, n1, n2, n3, t1, x2, x4⟩)) := Lib.hid ((HX.out.sets_at 6 (sgC x4) (of_decide_eq_true rfl)).eq rfl)
      have HR2 := Lib.hid (HR2.out.row (grown_vs_at (b := b4) (o := 6) (sgC x4)) (Or.inr rfl))
      have HR4 := Lib.hid (HR4.out.row (grown_vs_at (b := b4) (o := 6) (sgC x4)) (Or.inr rfl))
      generalize u2.setCells b4 6 (sgC x4) = u3 at HS HV HX HR2 HR4 ⊢
      go_wp2_with (first
        | (refine wpList_load_mid rfl 26 _ rfl b4 0 rfl (stC ⟨n0, n1, n2, n3, t1, x2, x4⟩) _ HX.out.range Tryz.underlying26 rfl (infoStn ⟨n0, n1, n2, n3, t1, x2, x4⟩) ?_)
        | (refine wpList_store_mid rfl 26 _ _ rfl w.heap.size 0 (stC ⟨n0, n1, n2, n3, t1, x2, x4⟩).toArray rfl rfl (HV.out.there rfl) (infoStn ⟨n0, n1, n2, n3, t1, x2, x4⟩) (stC_one' ⟨n0, n1, n2, n3, t1, x2, x4⟩) ?_))
      have HSe := Lib.hid (HS.out.own (grown_vs (b := w.heap.size) (stC ⟨n0, n1, n2, n3, t1, x2, x4⟩)) (Nat.le_refl _) (by omega))
      have HVe := Lib.hid (HV.out.sets (stC ⟨n0, n1, n2, n3, t1, x2, x4⟩) rfl)
      refine bodyPost_ret (v := .agg (stC ⟨n0, n1, n2, n3, t1, x2, x4⟩).toArray) ?_ rfl (ret_x (x := ⟨n0, n1, n2, n3, t1, x2, x4⟩) HSpec.out rfl ?_ ?_ HSe.out)
      · exact results_mid Tryz.results30 _ _ w.heap.size (stC ⟨n0, n1, n2, n3, t1, x2, x4⟩) _ rfl HVe.out.range Tryz.underlying26 rfl (infoStn ⟨n0, n1, n2, n3, t1, x2, x4⟩)
      · show St.mk n0 n1 n2 n3 t1 x2.er x4 = _
        have h2 := HX2.out
        rw [List.map_id] at h2
        have h4 : x4 = t4 := HX4.out
        rw [Sl.er, h2, h4]; rfl
      · exact fun W hW => ⟨⟨HN64.out n0 (by simp), HN64.out n1 (by simp), HN64.out n2 (by simp), HN64.out n3 (by simp)⟩, (((HR2.out.row (grown_vs (b := w.heap.size) _) (Or.inl (by omega))).stays.low (by omega)) W hW).1, (((HR2.out.row (grown_vs (b := w.heap.size) _) (Or.inl (by omega))).stays.low (by omega)) W hW).2, ((HR4.out.row (grown_vs (b := w.heap.size) _) (Or.inl (by omega))).stays.low (by omega)) W hW⟩
    refine AllReadyH.cons (o := _) rfl (fun K hK => ?_) AllReadyH.nil
    go_simp
    have HVp := HV
    have HKp := HK
    have HV : Hid (Vr (v1.alloc (.cells #[.int .i64 0, .int .i64 0, .int .i64 0, .int .i64 0, .string ⟨#[]⟩, .slice none 0 0, .int .i64 0, .int .i64 0, .int .i64 0, .int .i64 0, .string ⟨#[]⟩, .string ⟨#[]⟩] 26)) w.heap.size [.int .i64 0, .int .i64 0, .int .i64 0, .int .i64 0, .string ⟨#[]⟩, .slice none 0 0, .int .i64 0, .int .i64 0, .int .i64 0, .int .i64 0, .string ⟨#[]⟩, .string ⟨#[]⟩]) := Lib.hid (HV.out.below (below_new _ _))
    have HX : Hid (Vr (v1.alloc (.cells #[.int .i64 0, .int .i64 0, .int .i64 0, .int .i64 0, .string ⟨#[]⟩, .slice none 0 0, .int .i64 0, .int .i64 0, .int .i64 0, .int .i64 0, .string ⟨#[]⟩, .string ⟨#[]⟩] 26)) v1.heap.size [.int .i64 0, .int .i64 0, .int .i64 0, .int .i64 0, .string ⟨#[]⟩, .slice none 0 0, .int .i64 0, .int .i64 0, .int .i64 0, .int .i64 0, .string ⟨#[]⟩, .string ⟨#[]⟩]) := Lib.hid (Vr.new _ _ _)
    have HS1 : Hid (SsTo w g s1 (v1.alloc (.cells #[.int .i64 0, .int .i64 0, .int .i64 0, .int .i64 0, .string ⟨#[]⟩, .slice none 0 0, .int .i64 0, .int .i64 0, .int .i64 0, .int .i64 0, .string ⟨#[]⟩, .string ⟨#[]⟩] 26))) := Lib.hid (HS1.out.alloc _)
    have HK : Hid (Keeps (w.heap.size + 1) v0 (v1.alloc (.cells #[.int .i64 0, .int .i64 0, .int .i64 0, .int .i64 0, .string ⟨#[]⟩, .slice none 0 0, .int .i64 0, .int .i64 0, .int .i64 0, .int .i64 0, .string ⟨#[]⟩, .string ⟨#[]⟩] 26))) := Lib.hid (HK.out.trans (keeps_below _ (below_new _ _)))
    have hb4a : w.heap.size < v1.heap.size := HVp.out.lt
    have hv0b : v0.heap.size ≤ v1.heap.size := HKp.out.1
    have hzz : (v1.alloc (.cells #[.int .i64 0, .int .i64 0, .int .i64 0, .int .i64 0, .string ⟨#[]⟩, .slice none 0 0, .int .i64 0, .int .i64 0, .int .i64 0, .int .i64 0, .string ⟨#[]⟩, .string ⟨#[]⟩] 26)).heap.size = v1.heap.size + 1 := by simp
    generalize hvv : v1.alloc (.cells #[.int .i64 0, .int .i64 0, .int .i64 0, .int .i64 0, .string ⟨#[]⟩, .slice none 0 0, .int .i64 0, .int .i64 0, .int .i64 0, .int .i64 0, .string ⟨#[]⟩, .string ⟨#[]⟩] 26) = v2 at HV HX HS1 HK hzz  ⊢
    have hsv2 : v1.heap.size ≤ v2.heap.size := by omega
    generalize hb4e : v1.heap.size = b4 at HX hb4a hv0b hzz hsv2  ⊢
    have hb4 : b4 < v2.heap.size := by omega
    have hv0c : v0.heap.size ≤ b4 := by omega
    clear hvv hb4e hzz HVp HKp
    have hC := HCW.out v2 HK.out
    refine hK.out _ _ hC (fun hHeld => ?_)
    clear hK K
    try simp only [Act.put, List.setIfInBounds_toArray, List.set_cons_zero, List.set_cons_succ]
    refine wpAnyH_ready (rs := [15]) (by kernel_rfl) (by simp) ?_
    refine AllReadyH.cons (o := _) rfl (fun K hK => ?_) AllReadyH.nil
    go_simp
    go_at_call 67
    refine (partsSg_any g s1 _ (HS1.out.2) HL1.out (fun t ht q W hW => signature_x q ⟨t, false⟩ W hW (Nat.le_trans (Nat.le_trans ht HL1.out) (by decide)))).mono ?_
    rintro e v3 ⟨x2, rfl, hx2, hst2, hss2⟩
    rw [show tkParts tkSg s1 = (t2, s2) from HT2.out] at hss2 hx2
    simp only at hss2 hx2
    have HX2 := Lib.hid hx2
    clear hx2
    have hb4o := HX.out.lt
    have hz := hss2.1.size
    have HS2 : Hid (SsTo w g s2 v3) := Lib.hid (HS1.out.trans hss2)
    have HV : Hid (Vr v3 w.heap.size [.int .i64 0, .int .i64 0, .int .i64 0, .int .i64 0, .string ⟨#[]⟩, .slice none 0 0, .int .i64 0, .int .i64 0, .int .i64 0, .int .i64 0, .string ⟨#[]⟩, .string ⟨#[]⟩]) := Lib.hid (HV.out.grown hss2.1 (by omega))
    have HK : Hid (Keeps (w.heap.size + 1) v0 v3) := Lib.hid (HK.out.trans (keeps_grown hss2.1 (by omega)))
    have hC := HCW.out v3 HK.out
    have hsv3 : v2.heap.size ≤ v3.heap.size := hz
    have HX : Hid (Vr v3 b4 [.int .i64 0, .int .i64 0, .int .i64 0, .int .i64 0, .string ⟨#[]⟩, .slice none 0 0, .int .i64 0, .int .i64 0, .int .i64 0, .int .i64 0, .string ⟨#[]⟩, .string ⟨#[]⟩]) := Lib.hid (HX.out.grown hss2.1 (by omega))
    clear hb4 
    have hb4 := HX.out.lt
    have HR2 := Lib.hid (held_new (a := w.heap.size + 1) (b4 := b4) hst2 (by have := HV.out.lt; omega) (Or.inl (by omega)))
    clear hst2
    clear hss2 hz hb4o
    go_wp2_with fail
    refine hK.out _ _ hC (fun hHeld => ?_)
    clear hK K
    try simp only [Act.put, List.setIfInBounds_toArray, List.set_cons_zero, List.set_cons_succ]
    refine wpAnyH_take (i := 16) (oi := _) (v := ?_) rfl (by kernel_rfl) (by kernel_rfl) (by kernel_rfl) (fun _ _ _ h => h) (Or.inl ⟨by rfl, ?_⟩) (by assumption) ?_
    rotate_left
    · intro W hSw; (try dsimp only at hSw); go_simp; try with_reducible rfl
    try simp only [Act.put, List.setIfInBounds_toArray]
    refine wpAnyH_ready (rs := [18]) (by kernel_rfl) (by simp) ?_
    refine AllReadyH.cons (o := _) rfl (fun K hK => ?_) AllReadyH.nil
    rw [if_pos (by rfl)]
    refine wp_store_mid 26 _ _ rfl b4 0 (stC ⟨n0, n1, n2, n3, t1, x2, sg0⟩).toArray rfl rfl (HX.out.there rfl) (infoStn ⟨n0, n1, n2, n3, t1, x2, sg0⟩) (stC_one' ⟨n0, n1, n2, n3, t1, x2, sg0⟩) ?_
    have HS : Hid (SsTo w g s2 (v3.setCells b4 0 (stC ⟨n0, n1, n2, n3, t1, x2, sg0⟩))) := Lib.hid (HS2.out.own (grown_vs (b := b4) (stC ⟨n0, n1, n2, n3, t1, x2, sg0⟩)) (by omega) (by omega))
    have HV : Hid (Vr (v3.setCells b4 0 (stC ⟨n0, n1, n2, n3, t1, x2, sg0⟩)) w.heap.size [.int .i64 0, .int .i64 0, .int .i64 0, .int .i64 0, .string ⟨#[]⟩, .slice none 0 0, .int .i64 0, .int .i64 0, .int .i64 0, .int .i64 0, .string ⟨#[]⟩, .string ⟨#[]⟩]) := Lib.hid (HV.out.grown (grown_vs (b := b4) (stC ⟨n0, n1, n2, n3, t1, x2, sg0⟩)) (by omega))
    have HX : Hid (Vr (v3.setCells b4 0 (stC ⟨n0, n1, n2, n3, t1, x2, sg0⟩)) b4 (stC ⟨n0, n1, n2, n3, t1, x2, sg0⟩)) := Lib.hid (HX.out.sets (stC ⟨n0, n1, n2, n3, t1, x2, sg0⟩) rfl)
    have hC : (v3.setCells b4 0 (stC ⟨n0, n1, n2, n3, t1, x2, sg0⟩)).cell? ⟨b, off, none⟩ = some (.int .i64 n0) ∧ (v3.setCells b4 0 (stC ⟨n0, n1, n2, n3, t1, x2, sg0⟩)).cell? ⟨b, off + 1, none⟩ = some (.int .i64 n1) ∧ (v3.setCells b4 0 (stC ⟨n0, n1, n2, n3, t1, x2, sg0⟩)).cell? ⟨b, off + 2, none⟩ = some (.int .i64 n2) ∧ (v3.setCells b4 0 (stC ⟨n0, n1, n2, n3, t1, x2, sg0⟩)).cell? ⟨b, off + 3, none⟩ = some (.int .i64 n3) := HCW.out _ (keeps_row2 HK.out (grown_vs (b := b4) (stC ⟨n0, n1, n2, n3, t1, x2, sg0⟩)) (Or.inr (by omega)))
    have HR2 := Lib.hid (HR2.out.row (grown_vs (b := b4) (stC ⟨n0, n1, n2, n3, t1, x2, sg0⟩)) (Or.inr rfl))
    refine hK.out _ _ hC (fun hHeld => ?_)
    clear hK K
    try simp only [Act.put]
    refine wpAnyH_done (by kernel_rfl) ?_ _
    refine NoPanic.normal ?_
    try simp only [List.toList_toArray]
    generalize v3.setCells b4 0 (stC ⟨n0, n1, n2, n3, t1, x2, sg0⟩) = u0 at HS HV HX HR2 ⊢
    clear hC hHeld2 HK
    go_wp2_with fail
    refine (text_any g s2 _ HS.out.2 (Nat.le_trans HL2.out (by decide))).mono ?_
    rintro e u1 ⟨rfl, hss⟩
    rw [show tkText s2 = (t3, s3) from HT3.out] at hss ⊢
    simp only at hss ⊢
    have hsz1 := hss.1.size
    have HV : Hid (Vr u1 w.heap.size [.int .i64 0, .int .i64 0, .int .i64 0, .int .i64 0, .string ⟨#[]⟩, .slice none 0 0, .int .i64 0, .int .i64 0, .int .i64 0, .int .i64 0, .string ⟨#[]⟩, .string ⟨#[]⟩]) := Lib.hid (HV.out.grown hss.1 (by omega))
    have HX := Lib.hid (HX.out.grown hss.1 (by omega))
    have HR2 := Lib.hid (HR2.out.row hss.1 (Or.inl (by omega)))
    have HS : Hid (SsTo w g s3 u1) := Lib.hid (HS.out.trans hss)
    clear hss
    go_wp2_with fail
    refine (partSg_any g s3 t3 _ HS.out.2 (fun q W hW => signature_x q ⟨t3, false⟩ W hW (Nat.le_trans HTL3.out (by decide)))).mono ?_
    rintro e u2 ⟨x4, he, hx, hst4, hss⟩
    obtain rfl : e = .returned (.agg #[.int .i64 x4.server, .int .i64 x4.kind, .int .i64 x4.view, .int .i64 x4.slot, .string ⟨x4.digest.toArray⟩, .string ⟨x4.sig.toArray⟩]) := he
    rw [show tkPart tkSg t3 s3 = (t4, s4) from HT4.out] at hss hx
    simp only at hss hx
    have HX4 := Lib.hid hx
    clear hx
    have HR4 := Lib.hid (held_new (a := w.heap.size + 1) (b4 := b4) hst4 (by have := HX.out.lt; omega) (Or.inl (by have := HX.out.lt; omega)))
    have hsz2 := hss.1.size
    have HV : Hid (Vr u2 w.heap.size [.int .i64 0, .int .i64 0, .int .i64 0, .int .i64 0, .string ⟨#[]⟩, .slice none 0 0, .int .i64 0, .int .i64 0, .int .i64 0, .int .i64 0, .string ⟨#[]⟩, .string ⟨#[]⟩]) := Lib.hid (HV.out.grown hss.1 (by omega))
    have HX := Lib.hid (HX.out.grown hss.1 (by omega))
    have HR2 := Lib.hid (HR2.out.row hss.1 (Or.inl (by omega)))
    have HS : Hid (SsTo w g s4 u2) := Lib.hid (HS.out.trans hss)
    clear hss hst4
    go_upto_region 4 with (refine wpList_store_mid rfl 24 _ _ rfl b4 6 (sgC x4).toArray rfl rfl (HX.out.there_at 6 6 (of_decide_eq_true rfl)) (infoSgN x4) (sgC_one x4) ?_)
    try simp only [List.toList_toArray]
    have HS : Hid (SsTo w g s4 (u2.setCells b4 6 (sgC x4))) := Lib.hid (HS.out.own (grown_vs_at (b := b4) (o := 6) (sgC x4)) (by omega) (by omega))
    have HV : Hid (Vr (u2.setCells b4 6 (sgC x4)) w.heap.size [.int .i64 0, .int .i64 0, .int .i64 0, .int .i64 0, .string ⟨#[]⟩, .slice none 0 0, .int .i64 0, .int .i64 0, .int .i64 0, .int .i64 0, .string ⟨#[]⟩, .string ⟨#[]⟩]) := Lib.hid (HV.out.grown (grown_vs_at (b := b4) (o := 6) (sgC x4)) (by omega))
    have HX : Hid (Vr (u2.setCells b4 6 (sgC x4)) b4 (stC ⟨n0, n1, n2, n3, t1, x2, x4⟩)) := Lib.hid ((HX.out.sets_at 6 (sgC x4) (of_decide_eq_true rfl)).eq rfl)
    have HR2 := Lib.hid (HR2.out.row (grown_vs_at (b := b4) (o := 6) (sgC x4)) (Or.inr rfl))
    have HR4 := Lib.hid (HR4.out.row (grown_vs_at (b := b4) (o := 6) (sgC x4)) (Or.inr rfl))
    generalize u2.setCells b4 6 (sgC x4) = u3 at HS HV HX HR2 HR4 ⊢
    go_wp2_with (first
      | (refine wpList_load_mid rfl 26 _ rfl b4 0 rfl (stC ⟨n0, n1, n2, n3, t1, x2, x4⟩) _ HX.out.range Tryz.underlying26 rfl (infoStn ⟨n0, n1, n2, n3, t1, x2, x4⟩) ?_)
      | (refine wpList_store_mid rfl 26 _ _ rfl w.heap.size 0 (stC ⟨n0, n1, n2, n3, t1, x2, x4⟩).toArray rfl rfl (HV.out.there rfl) (infoStn ⟨n0, n1, n2, n3, t1, x2, x4⟩) (stC_one' ⟨n0, n1, n2, n3, t1, x2, x4⟩) ?_))
    have HSe := Lib.hid (HS.out.own (grown_vs (b := w.heap.size) (stC ⟨n0, n1, n2, n3, t1, x2, x4⟩)) (Nat.le_refl _) (by omega))
    have HVe := Lib.hid (HV.out.sets (stC ⟨n0, n1, n2, n3, t1, x2, x4⟩) rfl)
    refine bodyPost_ret (v := .agg (stC ⟨n0, n1, n2, n3, t1, x2, x4⟩).toArray) ?_ rfl (ret_x (x := ⟨n0, n1, n2, n3, t1, x2, x4⟩) HSpec.out rfl ?_ ?_ HSe.out)
    · exact results_mid Tryz.results30 _ _ w.heap.size (stC ⟨n0, n1, n2, n3, t1, x2, x4⟩) _ rfl HVe.out.range Tryz.underlying26 rfl (infoStn ⟨n0, n1, n2, n3, t1, x2, x4⟩)
    · show St.mk n0 n1 n2 n3 t1 x2.er x4 = _
      have h2 := HX2.out
      rw [List.map_id] at h2
      have h4 : x4 = t4 := HX4.out
      rw [Sl.er, h2, h4]; rfl
    · exact fun W hW => ⟨⟨HN64.out n0 (by simp), HN64.out n1 (by simp), HN64.out n2 (by simp), HN64.out n3 (by simp)⟩, (((HR2.out.row (grown_vs (b := w.heap.size) _) (Or.inl (by omega))).stays.low (by omega)) W hW).1, (((HR2.out.row (grown_vs (b := w.heap.size) _) (Or.inl (by omega))).stays.low (by omega)) W hW).2, ((HR4.out.row (grown_vs (b := w.heap.size) _) (Or.inl (by omega))).stays.low (by omega)) W hW⟩
  refine AllReadyH.cons (o := _) rfl (fun K hK => ?_) AllReadyH.nil
  go_simp
  have HVp := HV
  have HKp := HK
  have HV : Hid (Vr (v0.alloc (.cells #[.int .i64 0, .int .i64 0, .int .i64 0, .int .i64 0, .string ⟨#[]⟩, .slice none 0 0, .int .i64 0, .int .i64 0, .int .i64 0, .int .i64 0, .string ⟨#[]⟩, .string ⟨#[]⟩] 26)) w.heap.size [.int .i64 0, .int .i64 0, .int .i64 0, .int .i64 0, .string ⟨#[]⟩, .slice none 0 0, .int .i64 0, .int .i64 0, .int .i64 0, .int .i64 0, .string ⟨#[]⟩, .string ⟨#[]⟩]) := Lib.hid (HV.out.below (below_new _ _))
  have HX : Hid (Vr (v0.alloc (.cells #[.int .i64 0, .int .i64 0, .int .i64 0, .int .i64 0, .string ⟨#[]⟩, .slice none 0 0, .int .i64 0, .int .i64 0, .int .i64 0, .int .i64 0, .string ⟨#[]⟩, .string ⟨#[]⟩] 26)) v0.heap.size [.int .i64 0, .int .i64 0, .int .i64 0, .int .i64 0, .string ⟨#[]⟩, .slice none 0 0, .int .i64 0, .int .i64 0, .int .i64 0, .int .i64 0, .string ⟨#[]⟩, .string ⟨#[]⟩]) := Lib.hid (Vr.new _ _ _)
  have HS0 : Hid (SsTo w g s0 (v0.alloc (.cells #[.int .i64 0, .int .i64 0, .int .i64 0, .int .i64 0, .string ⟨#[]⟩, .slice none 0 0, .int .i64 0, .int .i64 0, .int .i64 0, .int .i64 0, .string ⟨#[]⟩, .string ⟨#[]⟩] 26))) := Lib.hid (HS0.out.alloc _)
  have HK : Hid (Keeps (w.heap.size + 1) v0 (v0.alloc (.cells #[.int .i64 0, .int .i64 0, .int .i64 0, .int .i64 0, .string ⟨#[]⟩, .slice none 0 0, .int .i64 0, .int .i64 0, .int .i64 0, .int .i64 0, .string ⟨#[]⟩, .string ⟨#[]⟩] 26))) := Lib.hid (HK.out.trans (keeps_below _ (below_new _ _)))
  have hb4a : w.heap.size < v0.heap.size := HVp.out.lt
  have hv0b : v0.heap.size ≤ v0.heap.size := HKp.out.1
  have hzz : (v0.alloc (.cells #[.int .i64 0, .int .i64 0, .int .i64 0, .int .i64 0, .string ⟨#[]⟩, .slice none 0 0, .int .i64 0, .int .i64 0, .int .i64 0, .int .i64 0, .string ⟨#[]⟩, .string ⟨#[]⟩] 26)).heap.size = v0.heap.size + 1 := by simp
  generalize hvv : v0.alloc (.cells #[.int .i64 0, .int .i64 0, .int .i64 0, .int .i64 0, .string ⟨#[]⟩, .slice none 0 0, .int .i64 0, .int .i64 0, .int .i64 0, .int .i64 0, .string ⟨#[]⟩, .string ⟨#[]⟩] 26) = v1 at HV HX HS0 HK hzz  ⊢
  have hsv1 : v0.heap.size ≤ v1.heap.size := by omega
  generalize hb4e : v0.heap.size = b4 at HX hb4a hv0b hzz hsv1  ⊢
  have hb4 : b4 < v1.heap.size := by omega
  have hv0c : v0.heap.size ≤ b4 := by omega
  clear hvv hb4e hzz HVp HKp
  have hC := HCW.out v1 HK.out
  refine hK.out _ _ hC (fun hHeld => ?_)
  clear hK K
  try simp only [Act.put, List.setIfInBounds_toArray, List.set_cons_zero, List.set_cons_succ]
  refine wpAnyH_ready (rs := [13]) (by kernel_rfl) (by simp) ?_
  refine AllReadyH.cons (o := _) rfl (fun K hK => ?_) AllReadyH.nil
  go_simp
  go_at_call 66
  refine (text_any g s0 _ (HS0.out.2) (Nat.le_trans HL0.out (by decide))).mono ?_
  rintro e v2 ⟨rfl, hss1⟩
  rw [show tkText s0 = (t1, s1) from HT1.out] at hss1 ⊢
  simp only at hss1 ⊢
  have hb4o := HX.out.lt
  have hz := hss1.1.size
  have HS1 : Hid (SsTo w g s1 v2) := Lib.hid (HS0.out.trans hss1)
  have HV : Hid (Vr v2 w.heap.size [.int .i64 0, .int .i64 0, .int .i64 0, .int .i64 0, .string ⟨#[]⟩, .slice none 0 0, .int .i64 0, .int .i64 0, .int .i64 0, .int .i64 0, .string ⟨#[]⟩, .string ⟨#[]⟩]) := Lib.hid (HV.out.grown hss1.1 (by omega))
  have HK : Hid (Keeps (w.heap.size + 1) v0 v2) := Lib.hid (HK.out.trans (keeps_grown hss1.1 (by omega)))
  have hC := HCW.out v2 HK.out
  have hsv2 : v1.heap.size ≤ v2.heap.size := hz
  have HX : Hid (Vr v2 b4 [.int .i64 0, .int .i64 0, .int .i64 0, .int .i64 0, .string ⟨#[]⟩, .slice none 0 0, .int .i64 0, .int .i64 0, .int .i64 0, .int .i64 0, .string ⟨#[]⟩, .string ⟨#[]⟩]) := Lib.hid (HX.out.grown hss1.1 (by omega))
  clear hb4 
  have hb4 := HX.out.lt
  clear hss1 hz hb4o
  go_wp2_with fail
  refine hK.out _ _ hC (fun hHeld => ?_)
  clear hK K
  try simp only [Act.put, List.setIfInBounds_toArray, List.set_cons_zero, List.set_cons_succ]
  refine wpAnyH_ready (rs := [15]) (by kernel_rfl) (by simp) ?_
  refine AllReadyH.cons (o := _) rfl (fun K hK => ?_) AllReadyH.nil
  go_simp
  go_at_call 67
  refine (partsSg_any g s1 _ (HS1.out.2) HL1.out (fun t ht q W hW => signature_x q ⟨t, false⟩ W hW (Nat.le_trans (Nat.le_trans ht HL1.out) (by decide)))).mono ?_
  rintro e v3 ⟨x2, rfl, hx2, hst2, hss2⟩
  rw [show tkParts tkSg s1 = (t2, s2) from HT2.out] at hss2 hx2
  simp only at hss2 hx2
  have HX2 := Lib.hid hx2
  clear hx2
  have hb4o := HX.out.lt
  have hz := hss2.1.size
  have HS2 : Hid (SsTo w g s2 v3) := Lib.hid (HS1.out.trans hss2)
  have HV : Hid (Vr v3 w.heap.size [.int .i64 0, .int .i64 0, .int .i64 0, .int .i64 0, .string ⟨#[]⟩, .slice none 0 0, .int .i64 0, .int .i64 0, .int .i64 0, .int .i64 0, .string ⟨#[]⟩, .string ⟨#[]⟩]) := Lib.hid (HV.out.grown hss2.1 (by omega))
  have HK : Hid (Keeps (w.heap.size + 1) v0 v3) := Lib.hid (HK.out.trans (keeps_grown hss2.1 (by omega)))
  have hC := HCW.out v3 HK.out
  have hsv3 : v2.heap.size ≤ v3.heap.size := hz
  have HX : Hid (Vr v3 b4 [.int .i64 0, .int .i64 0, .int .i64 0, .int .i64 0, .string ⟨#[]⟩, .slice none 0 0, .int .i64 0, .int .i64 0, .int .i64 0, .int .i64 0, .string ⟨#[]⟩, .string ⟨#[]⟩]) := Lib.hid (HX.out.grown hss2.1 (by omega))
  clear hb4 
  have hb4 := HX.out.lt
  have HR2 := Lib.hid (held_new (a := w.heap.size + 1) (b4 := b4) hst2 (by have := HV.out.lt; omega) (Or.inl (by omega)))
  clear hst2
  clear hss2 hz hb4o
  go_wp2_with fail
  refine hK.out _ _ hC (fun hHeld => ?_)
  clear hK K
  try simp only [Act.put, List.setIfInBounds_toArray, List.set_cons_zero, List.set_cons_succ]
  refine wpAnyH_take (i := 16) (oi := _) (v := ?_) rfl (by kernel_rfl) (by kernel_rfl) (by kernel_rfl) (fun _ _ _ h => h) (Or.inl ⟨by rfl, ?_⟩) (by assumption) ?_
  rotate_left
  · intro W hSw; (try dsimp only at hSw); go_simp; try with_reducible rfl
  try simp only [Act.put, List.setIfInBounds_toArray]
  refine wpAnyH_ready (rs := [18]) (by kernel_rfl) (by simp) ?_
  refine AllReadyH.cons (o := _) rfl (fun K hK => ?_) AllReadyH.nil
  rw [if_pos (by rfl)]
  refine wp_store_mid 26 _ _ rfl b4 0 (stC ⟨n0, n1, n2, n3, t1, x2, sg0⟩).toArray rfl rfl (HX.out.there rfl) (infoStn ⟨n0, n1, n2, n3, t1, x2, sg0⟩) (stC_one' ⟨n0, n1, n2, n3, t1, x2, sg0⟩) ?_
  have HS : Hid (SsTo w g s2 (v3.setCells b4 0 (stC ⟨n0, n1, n2, n3, t1, x2, sg0⟩))) := Lib.hid (HS2.out.own (grown_vs (b := b4) (stC ⟨n0, n1, n2, n3, t1, x2, sg0⟩)) (by omega) (by omega))
  have HV : Hid (Vr (v3.setCells b4 0 (stC ⟨n0, n1, n2, n3, t1, x2, sg0⟩)) w.heap.size [.int .i64 0, .int .i64 0, .int .i64 0, .int .i64 0, .string ⟨#[]⟩, .slice none 0 0, .int .i64 0, .int .i64 0, .int .i64 0, .int .i64 0, .string ⟨#[]⟩, .string ⟨#[]⟩]) := Lib.hid (HV.out.grown (grown_vs (b := b4) (stC ⟨n0, n1, n2, n3, t1, x2, sg0⟩)) (by omega))
  have HX : Hid (Vr (v3.setCells b4 0 (stC ⟨n0, n1, n2, n3, t1, x2, sg0⟩)) b4 (stC ⟨n0, n1, n2, n3, t1, x2, sg0⟩)) := Lib.hid (HX.out.sets (stC ⟨n0, n1, n2, n3, t1, x2, sg0⟩) rfl)
  have hC : (v3.setCells b4 0 (stC ⟨n0, n1, n2, n3, t1, x2, sg0⟩)).cell? ⟨b, off, none⟩ = some (.int .i64 n0) ∧ (v3.setCells b4 0 (stC ⟨n0, n1, n2, n3, t1, x2, sg0⟩)).cell? ⟨b, off + 1, none⟩ = some (.int .i64 n1) ∧ (v3.setCells b4 0 (stC ⟨n0, n1, n2, n3, t1, x2, sg0⟩)).cell? ⟨b, off + 2, none⟩ = some (.int .i64 n2) ∧ (v3.setCells b4 0 (stC ⟨n0, n1, n2, n3, t1, x2, sg0⟩)).cell? ⟨b, off + 3, none⟩ = some (.int .i64 n3) := HCW.out _ (keeps_row2 HK.out (grown_vs (b := b4) (stC ⟨n0, n1, n2, n3, t1, x2, sg0⟩)) (Or.inr (by omega)))
  have HR2 := Lib.hid (HR2.out.row (grown_vs (b := b4) (stC ⟨n0, n1, n2, n3, t1, x2, sg0⟩)) (Or.inr rfl))
  refine hK.out _ _ hC (fun hHeld => ?_)
  clear hK K
  try simp only [Act.put]
  refine wpAnyH_done (by kernel_rfl) ?_ _
  refine NoPanic.normal ?_
  try simp only [List.toList_toArray]
  generalize v3.setCells b4 0 (stC ⟨n0, n1, n2, n3, t1, x2, sg0⟩) = u0 at HS HV HX HR2 ⊢
  clear hC hHeld2 HK
  go_wp2_with fail
  refine (text_any g s2 _ HS.out.2 (Nat.le_trans HL2.out (by decide))).mono ?_
  rintro e u1 ⟨rfl, hss⟩
  rw [show tkText s2 = (t3, s3) from HT3.out] at hss ⊢
  simp only at hss ⊢
  have hsz1 := hss.1.size
  have HV : Hid (Vr u1 w.heap.size [.int .i64 0, .int .i64 0, .int .i64 0, .int .i64 0, .string ⟨#[]⟩, .slice none 0 0, .int .i64 0, .int .i64 0, .int .i64 0, .int .i64 0, .string ⟨#[]⟩, .string ⟨#[]⟩]) := Lib.hid (HV.out.grown hss.1 (by omega))
  have HX := Lib.hid (HX.out.grown hss.1 (by omega))
  have HR2 := Lib.hid (HR2.out.row hss.1 (Or.inl (by omega)))
  have HS : Hid (SsTo w g s3 u1) := Lib.hid (HS.out.trans hss)
  clear hss
  go_wp2_with fail
  refine (partSg_any g s3 t3 _ HS.out.2 (fun q W hW => signature_x q ⟨t3, false⟩ W hW (Nat.le_trans HTL3.out (by decide)))).mono ?_
  rintro e u2 ⟨x4, he, hx, hst4, hss⟩
  obtain rfl : e = .returned (.agg #[.int .i64 x4.server, .int .i64 x4.kind, .int .i64 x4.view, .int .i64 x4.slot, .string ⟨x4.digest.toArray⟩, .string ⟨x4.sig.toArray⟩]) := he
  rw [show tkPart tkSg t3 s3 = (t4, s4) from HT4.out] at hss hx
  simp only at hss hx
  have HX4 := Lib.hid hx
  clear hx
  have HR4 := Lib.hid (held_new (a := w.heap.size + 1) (b4 := b4) hst4 (by have := HX.out.lt; omega) (Or.inl (by have := HX.out.lt; omega)))
  have hsz2 := hss.1.size
  have HV : Hid (Vr u2 w.heap.size [.int .i64 0, .int .i64 0, .int .i64 0, .int .i64 0, .string ⟨#[]⟩, .slice none 0 0, .int .i64 0, .int .i64 0, .int .i64 0, .int .i64 0, .string ⟨#[]⟩, .string ⟨#[]⟩]) := Lib.hid (HV.out.grown hss.1 (by omega))
  have HX := Lib.hid (HX.out.grown hss.1 (by omega))
  have HR2 := Lib.hid (HR2.out.row hss.1 (Or.inl (by omega)))
  have HS : Hid (SsTo w g s4 u2) := Lib.hid (HS.out.trans hss)
  clear hss hst4
  go_upto_region 4 with (refine wpList_store_mid rfl 24 _ _ rfl b4 6 (sgC x4).toArray rfl rfl (HX.out.there_at 6 6 (of_decide_eq_true rfl)) (infoSgN x4) (sgC_one x4) ?_)
  try simp only [List.toList_toArray]
  have HS : Hid (SsTo w g s4 (u2.setCells b4 6 (sgC x4))) := Lib.hid (HS.out.own (grown_vs_at (b := b4) (o := 6) (sgC x4)) (by omega) (by omega))
  have HV : Hid (Vr (u2.setCells b4 6 (sgC x4)) w.heap.size [.int .i64 0, .int .i64 0, .int .i64 0, .int .i64 0, .string ⟨#[]⟩, .slice none 0 0, .int .i64 0, .int .i64 0, .int .i64 0, .int .i64 0, .string ⟨#[]⟩, .string ⟨#[]⟩]) := Lib.hid (HV.out.grown (grown_vs_at (b := b4) (o := 6) (sgC x4)) (by omega))
  have HX : Hid (Vr (u2.setCells b4 6 (sgC x4)) b4 (stC ⟨n0, n1, n2, n3, t1, x2, x4⟩)) := Lib.hid ((HX.out.sets_at 6 (sgC x4) (of_decide_eq_true rfl)).eq rfl)
  have HR2 := Lib.hid (HR2.out.row (grown_vs_at (b := b4) (o := 6) (sgC x4)) (Or.inr rfl))
  have HR4 := Lib.hid (HR4.out.row (grown_vs_at (b := b4) (o := 6) (sgC x4)) (Or.inr rfl))
  generalize u2.setCells b4 6 (sgC x4) = u3 at HS HV HX HR2 HR4 ⊢
  go_wp2_with (first
    | (refine wpList_load_mid rfl 26 _ rfl b4 0 rfl (stC ⟨n0, n1, n2, n3, t1, x2, x4⟩) _ HX.out.range Tryz.underlying26 rfl (infoStn ⟨n0, n1, n2, n3, t1, x2, x4⟩) ?_)
    | (refine wpList_store_mid rfl 26 _ _ rfl w.heap.size 0 (stC ⟨n0, n1, n2, n3, t1, x2, x4⟩).toArray rfl rfl (HV.out.there rfl) (infoStn ⟨n0, n1, n2, n3, t1, x2, x4⟩) (stC_one' ⟨n0, n1, n2, n3, t1, x2, x4⟩) ?_))
  have HSe := Lib.hid (HS.out.own (grown_vs (b := w.heap.size) (stC ⟨n0, n1, n2, n3, t1, x2, x4⟩)) (Nat.le_refl _) (by omega))
  have HVe := Lib.hid (HV.out.sets (stC ⟨n0, n1, n2, n3, t1, x2, x4⟩) rfl)
  refine bodyPost_ret (v := .agg (stC ⟨n0, n1, n2, n3, t1, x2, x4⟩).toArray) ?_ rfl (ret_x (x := ⟨n0, n1, n2, n3, t1, x2, x4⟩) HSpec.out rfl ?_ ?_ HSe.out)
  · exact results_mid Tryz.results30 _ _ w.heap.size (stC ⟨n0, n1, n2, n3, t1, x2, x4⟩) _ rfl HVe.out.range Tryz.underlying26 rfl (infoStn ⟨n0, n1, n2, n3, t1, x2, x4⟩)
  · show St.mk n0 n1 n2 n3 t1 x2.er x4 = _
    have h2 := HX2.out
    rw [List.map_id] at h2
    have h4 : x4 = t4 := HX4.out
    rw [Sl.er, h2, h4]; rfl
  · exact fun W hW => ⟨⟨HN64.out n0 (by simp), HN64.out n1 (by simp), HN64.out n2 (by simp), HN64.out n3 (by simp)⟩, (((HR2.out.row (grown_vs (b := w.heap.size) _) (Or.inl (by omega))).stays.low (by omega)) W hW).1, (((HR2.out.row (grown_vs (b := w.heap.size) _) (Or.inl (by omega))).stays.low (by omega)) W hW).2, ((HR4.out.row (grown_vs (b := w.heap.size) _) (Or.inl (by omega))).stays.low (by omega)) W hW⟩
end Go.Proofs.YtoehakekjlebdaaGreatDoor
/- message.part and message.parts at statuses. -/
namespace Go.Proofs.YtoehakekjlebdaaGreatDoor
open Go.RowKit

set_option maxRecDepth 100000 in
set_option maxHeartbeats 1000000 in
theorem partSt_any (g : Nat) (s : Sc) (t : List UInt8) (w : World) (hs : Ss w g s)
    (HF : ∀ q W, Ss W q ⟨t, false⟩ → Calls Tryz.prog 30 #[.pointer (some ⟨q, 0, none⟩)] W (RetX stC St.er St.ok q (tkSt ⟨t, false⟩) W)) :
    Calls Tryz.prog 29 #[.pointer (some ⟨g, 0, none⟩), .string ⟨t.toArray⟩, .func (.func 30) #[] #[]] w (RetX stC St.er St.ok g (tkPart tkSt t s) w) := by
  obtain ⟨r, b⟩ := s
  have hgl := hs.lt
  obtain ⟨y, hy⟩ : ∃ y, y = tkSt ⟨t, false⟩ := ⟨_, rfl⟩
  obtain ⟨y1, r', b'⟩ := y
  have HR : Hid (tkPart tkSt t ⟨r, b⟩ = (y1, ⟨r, b || b' || !r'.isEmpty⟩)) := Lib.hid (by unfold tkPart; rw [← hy])
  have HFX := Lib.hid HF
  have HY := Lib.hid hy
  have HV0 := Lib.hid (Vr.new w [.int .i64 0, .int .i64 0, .int .i64 0, .int .i64 0, .string ⟨#[]⟩, .slice none 0 0, .int .i64 0, .int .i64 0, .int .i64 0, .int .i64 0, .string ⟨#[]⟩, .string ⟨#[]⟩] 26)
  have HV1 := Lib.hid (HV0.out.below (below_new (w.alloc (.cells #[.int .i64 0, .int .i64 0, .int .i64 0, .int .i64 0, .string ⟨#[]⟩, .slice none 0 0, .int .i64 0, .int .i64 0, .int .i64 0, .int .i64 0, .string ⟨#[]⟩, .string ⟨#[]⟩] 26)) (.cells #[.string ⟨t.toArray⟩, .bool false] 58)))
  have HS1 := Lib.hid (((SsTo.refl hs).alloc (.cells #[.int .i64 0, .int .i64 0, .int .i64 0, .int .i64 0, .string ⟨#[]⟩, .slice none 0 0, .int .i64 0, .int .i64 0, .int .i64 0, .int .i64 0, .string ⟨#[]⟩, .string ⟨#[]⟩] 26)).alloc (.cells #[.string ⟨t.toArray⟩, .bool false] 58))
  have HQ1 := Lib.hid (Ss.new' (w.alloc (.cells #[.int .i64 0, .int .i64 0, .int .i64 0, .int .i64 0, .string ⟨#[]⟩, .slice none 0 0, .int .i64 0, .int .i64 0, .int .i64 0, .int .i64 0, .string ⟨#[]⟩, .string ⟨#[]⟩] 26)) t false 58 (g := w.heap.size + 1) (by simp))
  have HZ1 : Hid (((w.alloc (.cells #[.int .i64 0, .int .i64 0, .int .i64 0, .int .i64 0, .string ⟨#[]⟩, .slice none 0 0, .int .i64 0, .int .i64 0, .int .i64 0, .int .i64 0, .string ⟨#[]⟩, .string ⟨#[]⟩] 26)).alloc (.cells #[.string ⟨t.toArray⟩, .bool false] 58)).heap.size = w.heap.size + 2) := Lib.hid (by simp)
  clear hs hy HF HV0
  go_enter Tryz.func29, Tryz.ntmps29
  go_wp2_with fail
  refine (HFX.out (w.heap.size + 1) _ HQ1.out).mono ?_
  rintro e w2 ⟨x, he, hx, hst, hss⟩
  rw [← HY.out] at hss hx
  obtain rfl : e = .returned (.agg #[.int .i64 x.server, .int .i64 x.view, .int .i64 x.length, .int .i64 x.lockView, .string ⟨x.lock.toArray⟩, .slice x.cert.a x.cert.l.length x.cert.c, .int .i64 x.signed.server, .int .i64 x.signed.kind, .int .i64 x.signed.view, .int .i64 x.signed.slot, .string ⟨x.signed.digest.toArray⟩, .string ⟨x.signed.sig.toArray⟩]) := he
  rw [HZ1.out] at hst
  have h2 := hss.1.size
  rw [HZ1.out] at h2
  have HV2 := Lib.hid ((HV1.out.grown hss.1 (by omega)).below (below_new w2 (.cells #[.int .i64 x.server, .int .i64 x.view, .int .i64 x.length, .int .i64 x.lockView, .string ⟨x.lock.toArray⟩, .slice x.cert.a x.cert.l.length x.cert.c, .int .i64 x.signed.server, .int .i64 x.signed.kind, .int .i64 x.signed.view, .int .i64 x.signed.slot, .string ⟨x.signed.digest.toArray⟩, .string ⟨x.signed.sig.toArray⟩] 26)))
  have HS2 := Lib.hid ((HS1.out.own hss.1 (by omega) (by omega)).alloc (.cells #[.int .i64 x.server, .int .i64 x.view, .int .i64 x.length, .int .i64 x.lockView, .string ⟨x.lock.toArray⟩, .slice x.cert.a x.cert.l.length x.cert.c, .int .i64 x.signed.server, .int .i64 x.signed.kind, .int .i64 x.signed.view, .int .i64 x.signed.slot, .string ⟨x.signed.digest.toArray⟩, .string ⟨x.signed.sig.toArray⟩] 26))
  have HQ2 := Lib.hid (hss.2.alloc (.cells #[.int .i64 x.server, .int .i64 x.view, .int .i64 x.length, .int .i64 x.lockView, .string ⟨x.lock.toArray⟩, .slice x.cert.a x.cert.l.length x.cert.c, .int .i64 x.signed.server, .int .i64 x.signed.kind, .int .i64 x.signed.view, .int .i64 x.signed.slot, .string ⟨x.signed.digest.toArray⟩, .string ⟨x.signed.sig.toArray⟩] 26))
  have HX2 := Lib.hid (Vr.new w2 (stC x) 26)
  have HT2 := Lib.hid (hst.on (keeps_below _ (below_new w2 (.cells #[.int .i64 x.server, .int .i64 x.view, .int .i64 x.length, .int .i64 x.lockView, .string ⟨x.lock.toArray⟩, .slice x.cert.a x.cert.l.length x.cert.c, .int .i64 x.signed.server, .int .i64 x.signed.kind, .int .i64 x.signed.view, .int .i64 x.signed.slot, .string ⟨x.signed.digest.toArray⟩, .string ⟨x.signed.sig.toArray⟩] 26))))
  have HX := Lib.hid hx
  clear hx hst hss HV1 HS1 HQ1 HZ1
  go_upto_region 3 with fail
  generalize hw3 : w2.alloc (.cells #[.int .i64 x.server, .int .i64 x.view, .int .i64 x.length, .int .i64 x.lockView, .string ⟨x.lock.toArray⟩, .slice x.cert.a x.cert.l.length x.cert.c, .int .i64 x.signed.server, .int .i64 x.signed.kind, .int .i64 x.signed.view, .int .i64 x.signed.slot, .string ⟨x.signed.digest.toArray⟩, .string ⟨x.signed.sig.toArray⟩] 26) = w3 at HV2 HS2 HQ2 HT2
  have HX3 : Hid (Vr w3 w2.heap.size (stC x)) := Lib.hid (hw3 ▸ HX2.out)
  try rw [hw3]
  clear hw3 HX2
  have c1 := HS2.out.2.c1
  have f1 := HS2.out.2.f1
  have dl := HS2.out.2.lt
  have q0 := HQ2.out.c0
  have q1 := HQ2.out.c1
  have ql := HQ2.out.lt
  simp only at c1 q0 q1
  have HVz : Hid (∀ v : Bool, Vr (w3.setCell ⟨g, 1, none⟩ (.bool v)) w.heap.size [.int .i64 0, .int .i64 0, .int .i64 0, .int .i64 0, .string ⟨#[]⟩, .slice none 0 0, .int .i64 0, .int .i64 0, .int .i64 0, .int .i64 0, .string ⟨#[]⟩, .string ⟨#[]⟩]) := Lib.hid (fun v => HV2.out.grown (grown_set w3 ⟨g, 1, none⟩ (.bool v)) (by show w.heap.size ≠ g; omega))
  have HXz : Hid (∀ v : Bool, Vr (w3.setCell ⟨g, 1, none⟩ (.bool v)) w2.heap.size (stC x)) := Lib.hid (fun v => HX3.out.grown (grown_set w3 ⟨g, 1, none⟩ (.bool v)) (by show w2.heap.size ≠ g; omega))
  have HFin : Hid (∀ v : Bool, v = (b || b' || !r'.isEmpty) → RetX stC St.er St.ok g (tkPart tkSt t ⟨r, b⟩) w (.returned (.agg (stC x).toArray)) ((w3.setCell ⟨g, 1, none⟩ (.bool v)).setCells w.heap.size 0 (stC x))) := Lib.hid (fun v hv =>
    ret_x HR.out rfl HX.out (((HT2.out.on (keeps_grown (grown_set w3 ⟨g, 1, none⟩ (.bool v)) (by show g < w.heap.size + 2; omega))).on (keeps_grown (grown_vs (b := w.heap.size) (stC x)) (by omega))).low (by omega))
      (((HS2.out.set1 v).own (grown_vs (b := w.heap.size) (stC x)) (Nat.le_refl _) (by omega)).eq (by rw [hv])))
  cases b
  · cases b'
    · cases r'
      · go_wp2_with (first
          | (refine wpList_load_mid rfl 26 _ rfl w2.heap.size 0 rfl (stC x) _ (HXz.out false).range Tryz.underlying26 rfl (infoStn x) ?_)
          | (refine wpList_store_mid rfl 26 _ _ rfl w.heap.size 0 (stC x).toArray rfl rfl ((HVz.out false).there rfl) (infoStn x) (stC_one' x) ?_))
        refine bodyPost_ret (v := .agg (stC x).toArray) ?_ rfl (HFin.out false rfl)
        exact results_mid Tryz.results29 _ _ w.heap.size (stC x) _ rfl ((HVz.out false).sets (stC x) rfl).range Tryz.underlying26 rfl (infoStn x)
      · go_wp2_with (first
          | (refine wpList_load_mid rfl 26 _ rfl w2.heap.size 0 rfl (stC x) _ (HXz.out true).range Tryz.underlying26 rfl (infoStn x) ?_)
          | (refine wpList_store_mid rfl 26 _ _ rfl w.heap.size 0 (stC x).toArray rfl rfl ((HVz.out true).there rfl) (infoStn x) (stC_one' x) ?_))
        refine bodyPost_ret (v := .agg (stC x).toArray) ?_ rfl (HFin.out true rfl)
        exact results_mid Tryz.results29 _ _ w.heap.size (stC x) _ rfl ((HVz.out true).sets (stC x) rfl).range Tryz.underlying26 rfl (infoStn x)
    · go_wp2_with (first
        | (refine wpList_load_mid rfl 26 _ rfl w2.heap.size 0 rfl (stC x) _ (HXz.out true).range Tryz.underlying26 rfl (infoStn x) ?_)
        | (refine wpList_store_mid rfl 26 _ _ rfl w.heap.size 0 (stC x).toArray rfl rfl ((HVz.out true).there rfl) (infoStn x) (stC_one' x) ?_))
      refine bodyPost_ret (v := .agg (stC x).toArray) ?_ rfl (HFin.out true rfl)
      exact results_mid Tryz.results29 _ _ w.heap.size (stC x) _ rfl ((HVz.out true).sets (stC x) rfl).range Tryz.underlying26 rfl (infoStn x)
  · go_wp2_with (first
      | (refine wpList_load_mid rfl 26 _ rfl w2.heap.size 0 rfl (stC x) _ (HXz.out true).range Tryz.underlying26 rfl (infoStn x) ?_)
      | (refine wpList_store_mid rfl 26 _ _ rfl w.heap.size 0 (stC x).toArray rfl rfl ((HVz.out true).there rfl) (infoStn x) (stC_one' x) ?_))
    refine bodyPost_ret (v := .agg (stC x).toArray) ?_ rfl (HFin.out true (by simp))
    exact results_mid Tryz.results29 _ _ w.heap.size (stC x) _ rfl ((HVz.out true).sets (stC x) rfl).range Tryz.underlying26 rfl (infoStn x)
theorem infoStr : (Tryz.prog.info? 26).map (fun i => (i.zero, i.size, i.bytes)) = some (some (.agg #[.int .i64 0, .int .i64 0, .int .i64 0, .int .i64 0, .string ⟨#[]⟩, .slice none 0 0, .int .i64 0, .int .i64 0, .int .i64 0, .int .i64 0, .string ⟨#[]⟩, .string ⟨#[]⟩]), 12, 136) := by kernel_rfl
set_option maxRecDepth 100000 in
set_option maxHeartbeats 1000000 in
theorem partsSt_any (g : Nat) (s : Sc) (w : World) (hs : Ss w g s) (hl : s.rest.length ≤ 268435456)
    (HF : ∀ t : List UInt8, t.length ≤ s.rest.length → ∀ q W, Ss W q ⟨t, false⟩ → Calls Tryz.prog 30 #[.pointer (some ⟨q, 0, none⟩)] W (RetX stC St.er St.ok q (tkSt ⟨t, false⟩) W)) :
    Calls Tryz.prog 79 #[.pointer (some ⟨g, 0, none⟩), .func (.func 30) #[] #[]] w (RetXs 12 stC St.er St.ok g (tkParts tkSt s) w) := by
  have hgl := hs.lt
  have hz := tkTexts_sz s
  have HTx := Lib.hid (texts_any g s w hs (Nat.le_trans hl (by decide)))
  obtain ⟨p, hp⟩ : ∃ p, p = tkTexts s := ⟨_, rfl⟩
  have HR : Hid (tkParts tkSt s = tkAll tkSt p.1 p.2) := Lib.hid (by rw [hp]; rfl)
  rw [← hp] at HTx hz
  obtain ⟨l, s1⟩ := p
  simp only at hz HTx HR
  have hln : l.length ≤ 268435456 := by have := sum_ge szS l 1 szS_ge; omega
  have HP : Hid (∀ t ∈ l, ∀ s' W, Ss W g s' → Calls Tryz.prog 29 #[.pointer (some ⟨g, 0, none⟩), .string ⟨t.toArray⟩, .func (.func 30) #[] #[]] W (RetX stC St.er St.ok g (tkPart tkSt t s') W)) :=
    Lib.hid (fun t ht s' W hW => partSt_any g s' t W hW (HF t (by have := sum_get szS l t ht; unfold szS at this hz; omega)))
  obtain ⟨i0, hi, hz0, hz1, hz2⟩ := info_parts infoStr
  have HI := Lib.hid hi
  have HZ0 := Lib.hid hz0
  have HZ1 := Lib.hid hz1
  have HZ2 := Lib.hid hz2
  clear hi hz0 hz1 hz2 hs HF hp hz
  go_enter Tryz.func79, Tryz.ntmps79
  go_wp2_with fail
  refine HTx.out.mono ?_
  rintro e w1 ⟨A, c, rfl, hr, h⟩
  have HSt := Lib.hid (PtSt.start (T := 26) (k := 12) (C := stC) (er := St.er) (ok := St.ok) (tk := tkSt) hr h)
  have hB : w.heap.size ≤ w1.heap.size := h.1.size
  clear hr h
  simp only
  go_wp2_with fail
  go_loopw [5, 11] (fun o i wr => ∃ (j : Nat) (xs : List St) (sj : Sc) (F : Nat → Prop), i = .int .i64 j ∧ j ≤ l.length ∧ PtSt 26 12 stC St.er St.ok tkSt w w1.heap.size g A l s1 j o xs sj F wr) (fun _ i _ => l.length - (intOf i).toNat)
  case atStart => exact ⟨0, [], s1, _, rfl, by omega, HSt.out⟩
  case round =>
    obtain ⟨j, xs, sj, F, rfl, hj, hst⟩ := hrel
    have HJ := Lib.hid hst
    clear hst
    by_cases hlt : j < l.length
    · have i0' : (0 : Int) ≤ (j : Int) := by omega
      have i1 : (j : Int) < (l.length : Int) := by omega
      obtain ⟨b, off, hA, hbl, hcc⟩ := HJ.out.foot.out.1.cells (by rw [strC_len]; omega)
      subst hA
      obtain ⟨t, ht⟩ : ∃ t, t = l[j] := ⟨_, rfl⟩
      have a0 : wr.cell? ⟨b, off + j, none⟩ = some (.string ⟨t.toArray⟩) := hcc j _ (by unfold strC; rw [List.getElem?_map, List.getElem?_eq_getElem hlt, ht]; rfl)
      have HTt := Lib.hid ht
      have HM := Lib.hid (ht ▸ List.getElem_mem hlt : t ∈ l)
      clear ht hcc
      go_wp2_with fail
      refine (HP.out t HM.out sj wr HJ.out.src.2).mono ?_
      rintro e w2 ⟨x, he, hx, hstx, hs2⟩
      obtain rfl : e = .returned (.agg #[.int .i64 x.server, .int .i64 x.view, .int .i64 x.length, .int .i64 x.lockView, .string ⟨x.lock.toArray⟩, .slice x.cert.a x.cert.l.length x.cert.c, .int .i64 x.signed.server, .int .i64 x.signed.kind, .int .i64 x.signed.view, .int .i64 x.signed.slot, .string ⟨x.signed.digest.toArray⟩, .string ⟨x.signed.sig.toArray⟩]) := he
      have HO2 := Lib.hid (HJ.out.row (by omega) hs2)
      have hz2 : wr.heap.size ≤ w2.heap.size := hs2.1.size
      have hz3 : w1.heap.size ≤ wr.heap.size := HJ.out.size
      have HX := Lib.hid hx
      have HTX := Lib.hid hstx
      have HS2 := Lib.hid hs2
      clear hx hstx hs2 a0
      go_wp2_with (at_builtin; refine wpList_append_own_at _ rfl _ _ 29 rfl w1.heap.size 26 i0 _ 12 136 Tryz.underlying29 HI.out HZ0.out HZ1.out HZ2.out rfl (by decide) _ _ _ rfl (HO2.out.alloc _) ⟨w2.heap.size, 0, none⟩ 1 1 [.int .i64 x.server, .int .i64 x.view, .int .i64 x.length, .int .i64 x.lockView, .string ⟨x.lock.toArray⟩, .slice x.cert.a x.cert.l.length x.cert.c, .int .i64 x.signed.server, .int .i64 x.signed.kind, .int .i64 x.signed.view, .int .i64 x.signed.slot, .string ⟨x.signed.digest.toArray⟩, .string ⟨x.signed.sig.toArray⟩] rfl rfl (cell_new _ _ _ _ rfl) (by simp [Value.oneCell']) (by simp [maxLen]; omega) (by omega) (by simp; omega) ?_)
      intro v' w4 hown' hgrow _ hat
      have HN : Hid (PtSt 26 12 stC St.er St.ok tkSt w w1.heap.size g (some ⟨b, off, none⟩) l s1 (j + 1) v' (xs ++ [x]) (tkPart tkSt l[j] sj).2 (fun i => F i ∨ (wr.heap.size ≤ i ∧ i < w2.heap.size)) w4) := Lib.hid
        (HJ.out.step hgl hB hlt (by rw [HX.out, HTt.out]) HTX.out (by rw [← HTt.out]; exact HS2.out) (below_new w2 (.cells #[.int .i64 x.server, .int .i64 x.view, .int .i64 x.length, .int .i64 x.lockView, .string ⟨x.lock.toArray⟩, .slice x.cert.a x.cert.l.length x.cert.c, .int .i64 x.signed.server, .int .i64 x.signed.kind, .int .i64 x.signed.view, .int .i64 x.signed.slot, .string ⟨x.signed.digest.toArray⟩, .string ⟨x.signed.sig.toArray⟩] 26)) (by simp) hown' hgrow hat)
      clear hown' hgrow hat
      go_wp2_with fail
      go_roundw
      case rel => exact ⟨j + 1, xs ++ [x], _, _, by go_num, by omega, HN.out⟩
      case measure => simp [intOf]; omega
    · obtain rfl : j = l.length := by omega
      obtain ⟨a, c', rfl, hret⟩ := HJ.out.done hB
      have HRet := Lib.hid hret
      clear hret
      go_wp2_with fail
      go_ret
      rw [HR.out]
      exact HRet.out
end Go.Proofs.YtoehakekjlebdaaGreatDoor
/- message.readMessage. -/
namespace Go.Proofs.YtoehakekjlebdaaGreatDoor
open Go.RowKit

theorem infoMsn (x : Ms) : (Tryz.prog.info? 36).map (·.size) = some (msC x).length := by
  have : (Tryz.prog.info? 36).map (·.size) = some 21 := by kernel_rfl
  exact this
theorem msC_one' (x : Ms) : (msC x).toArray.all (·.oneCell') = true := by simp [msC, Sl.v, Value.oneCell']
set_option maxRecDepth 100000 in
set_option maxHeartbeats 2000000 in
theorem readMessage_any (g : Nat) (s : Sc) (w : World) (hs : Ss w g s) (hl : s.rest.length ≤ 268435456) :
    Calls Tryz.prog 35 #[.pointer (some ⟨g, 0, none⟩)] w (RetX msC Ms.er Ms.ok g (tkMs s) w) := by
  have hgl := hs.lt
  have HTn := tkInts_ok 6 s
  obtain ⟨n0, n1, n2, n3, n4, n5, hn⟩ := six_of _ HTn.1
  obtain ⟨s0, hs0⟩ : ∃ s0, s0 = (tkInts 6 s).2 := ⟨_, rfl⟩
  have HT0 : Hid (tkInts 6 s = ([n0, n1, n2, n3, n4, n5], s0)) := Lib.hid (by rw [hs0, ← hn])
  have HN64 : Hid (∀ x ∈ [n0, n1, n2, n3, n4, n5], I64 x) := Lib.hid (by rw [← hn]; exact HTn.2)
  have HL0 : Hid (s0.rest.length ≤ 268435456) := Lib.hid (by rw [hs0]; exact Nat.le_trans (tkInts_rest 6 s) hl)
  clear HTn hn hs0
  obtain ⟨t1, s1, ht1⟩ : ∃ t s', tkText s0 = (t, s') := ⟨_, _, rfl⟩
  have HL1 : Hid (s1.rest.length ≤ 268435456) := Lib.hid (by have h9 := ag_text.len s0; rw [ht1] at h9; exact Nat.le_trans h9 HL0.out)
  have HTL1 : Hid (t1.length ≤ 268435456) := Lib.hid (by have h9 := tkText_sz s0; rw [ht1] at h9; have h8 := HL0.out; simp only at h9; omega)
  have HT1 := Lib.hid ht1
  clear ht1
  obtain ⟨t2, s2, ht2⟩ : ∃ t s', tkText s1 = (t, s') := ⟨_, _, rfl⟩
  have HL2 : Hid (s2.rest.length ≤ 268435456) := Lib.hid (by have h9 := ag_text.len s1; rw [ht2] at h9; exact Nat.le_trans h9 HL1.out)
  have HTL2 : Hid (t2.length ≤ 268435456) := Lib.hid (by have h9 := tkText_sz s1; rw [ht2] at h9; have h8 := HL1.out; simp only at h9; omega)
  have HT2 := Lib.hid ht2
  clear ht2
  obtain ⟨t3, s3, ht3⟩ : ∃ t s', tkPart tkSg t2 s2 = (t, s') := ⟨_, _, rfl⟩
  have HL3 : Hid (s3.rest.length ≤ 268435456) := Lib.hid (by have h9 := part_len tkSg t2 s2; rw [ht3] at h9; exact Nat.le_trans h9 HL2.out)
  have HT3 := Lib.hid ht3
  clear ht3
  obtain ⟨t4, s4, ht4⟩ : ∃ t s', tkParts tkSt s3 = (t, s') := ⟨_, _, rfl⟩
  have HL4 : Hid (s4.rest.length ≤ 268435456) := Lib.hid (by have h9 := (ag_parts ag_st).len s3; rw [ht4] at h9; exact Nat.le_trans h9 HL3.out)
  have HT4 := Lib.hid ht4
  clear ht4
  obtain ⟨t5, s5, ht5⟩ : ∃ t s', tkParts tkDe s4 = (t, s') := ⟨_, _, rfl⟩
  have HL5 : Hid (s5.rest.length ≤ 268435456) := Lib.hid (by have h9 := (ag_parts ag_de).len s4; rw [ht5] at h9; exact Nat.le_trans h9 HL4.out)
  have HT5 := Lib.hid ht5
  clear ht5
  obtain ⟨t6, s6, ht6⟩ : ∃ t s', tkText s5 = (t, s') := ⟨_, _, rfl⟩
  have HL6 : Hid (s6.rest.length ≤ 268435456) := Lib.hid (by have h9 := ag_text.len s5; rw [ht6] at h9; exact Nat.le_trans h9 HL5.out)
  have HTL6 : Hid (t6.length ≤ 268435456) := Lib.hid (by have h9 := tkText_sz s5; rw [ht6] at h9; have h8 := HL5.out; simp only at h9; omega)
  have HT6 := Lib.hid ht6
  clear ht6
  obtain ⟨t7, s7, ht7⟩ : ∃ t s', tkPart tkSn t6 s6 = (t, s') := ⟨_, _, rfl⟩
  have HL7 : Hid (s7.rest.length ≤ 268435456) := Lib.hid (by have h9 := part_len tkSn t6 s6; rw [ht7] at h9; exact Nat.le_trans h9 HL6.out)
  have HT7 := Lib.hid ht7
  clear ht7
  obtain ⟨t8, s8, ht8⟩ : ∃ t s', tkTexts s7 = (t, s') := ⟨_, _, rfl⟩
  have HL8 : Hid (s8.rest.length ≤ 268435456) := Lib.hid (by have h9 := ag_texts.len s7; rw [ht8] at h9; exact Nat.le_trans h9 HL7.out)
  have HT8 := Lib.hid ht8
  clear ht8
  have HSpec : Hid (tkMs s = (⟨n0, n1, n2, n3, n4, t1, n5, t3, Sl.of t4, Sl.of t5, t7, Sl.of t8⟩, s8)) := Lib.hid (by
    unfold tkMs tkOne tkThen tkRet
    simp only [HT0.out, HT1.out, HT2.out, HT3.out, HT4.out, HT5.out, HT6.out, HT7.out, HT8.out]
    rfl)
  have HVw := Lib.hid (Vr.new w [.int .i64 0, .int .i64 0, .int .i64 0, .int .i64 0, .int .i64 0, .string ⟨#[]⟩, .int .i64 0, .int .i64 0, .int .i64 0, .int .i64 0, .int .i64 0, .string ⟨#[]⟩, .string ⟨#[]⟩, .slice none 0 0, .slice none 0 0, .int .i64 0, .string ⟨#[]⟩, .slice none 0 0, .slice none 0 0, .slice none 0 0, .slice none 0 0] 36)
  have HSw := Lib.hid ((SsTo.refl hs).alloc (.cells #[.int .i64 0, .int .i64 0, .int .i64 0, .int .i64 0, .int .i64 0, .string ⟨#[]⟩, .int .i64 0, .int .i64 0, .int .i64 0, .int .i64 0, .int .i64 0, .string ⟨#[]⟩, .string ⟨#[]⟩, .slice none 0 0, .slice none 0 0, .int .i64 0, .string ⟨#[]⟩, .slice none 0 0, .slice none 0 0, .slice none 0 0, .slice none 0 0] 36))
  have hzd : (w.alloc (.cells #[.int .i64 0, .int .i64 0, .int .i64 0, .int .i64 0, .int .i64 0, .string ⟨#[]⟩, .int .i64 0, .int .i64 0, .int .i64 0, .int .i64 0, .int .i64 0, .string ⟨#[]⟩, .string ⟨#[]⟩, .slice none 0 0, .slice none 0 0, .int .i64 0, .string ⟨#[]⟩, .slice none 0 0, .slice none 0 0, .slice none 0 0, .slice none 0 0] 36)).heap.size = w.heap.size + 1 := by simp
  have HZd := Lib.hid hzd
  clear hs hzd
  go_enter Tryz.func35, Tryz.ntmps35
  go_wp2_with fail
  refine (ints6_any g s _ HSw.out.2 (Nat.le_trans hl (by decide))).mono ?_
  rintro e w0 ⟨A, c, he, hst0, hss0⟩
  rw [HT0.out] at he hst0 hss0
  obtain rfl : e = .returned (.slice A 6 c) := he
  simp only at hss0
  rw [HZd.out] at hst0
  have h0 := hss0.1.size
  rw [HZd.out] at h0
  have HS0 : Hid (SsTo w g s0 w0.drew) := Lib.hid ((HSw.out.trans hss0).below (Below.refl _ _).drew)
  have HV := Lib.hid ((HVw.out.grown hss0.1 (by omega)).below (Below.refl _ _).drew)
  have HR0 := Lib.hid (hst0.on (keeps_below _ (Below.refl _ _).drew))
  clear hss0 hst0 HSw HVw HZd
  go_wp2_with fail
  refine wp_region_noPanic ?_
  have h0d : w.heap.size + 1 ≤ w0.drew.heap.size := h0
  generalize hv0 : w0.drew = v0 at HS0 HV HR0 h0d
  obtain ⟨b, off, hA, hbl, hcc⟩ := ints_cells HR0.out.out (by simp)
  subst hA
  have HCW : Hid (∀ W, Keeps (w.heap.size + 1) v0 W → W.cell? ⟨b, off, none⟩ = some (.int .i64 n0) ∧ W.cell? ⟨b, off + 1, none⟩ = some (.int .i64 n1) ∧ W.cell? ⟨b, off + 2, none⟩ = some (.int .i64 n2) ∧ W.cell? ⟨b, off + 3, none⟩ = some (.int .i64 n3) ∧ W.cell? ⟨b, off + 4, none⟩ = some (.int .i64 n4) ∧ W.cell? ⟨b, off + 5, none⟩ = some (.int .i64 n5)) := Lib.hid (fun W hW => by
    obtain ⟨b2, o2, hA2, _, hc2⟩ := ints_cells (HR0.out W hW) (by simp)
    simp only [Option.some.injEq, Addr.mk.injEq] at hA2
    obtain ⟨rfl, rfl, _⟩ := hA2
    exact ⟨hc2 0 _ rfl, hc2 1 _ rfl, hc2 2 _ rfl, hc2 3 _ rfl, hc2 4 _ rfl, hc2 5 _ rfl⟩)
  have HK := Lib.hid (Keeps.refl (w.heap.size + 1) v0)
  have hC := HCW.out v0 HK.out
  clear hcc hbl HR0
  refine wp_region_held_drew (S := fun W => W.cell? ⟨b, off, none⟩ = some (.int .i64 n0) ∧ W.cell? ⟨b, off + 1, none⟩ = some (.int .i64 n1) ∧ W.cell? ⟨b, off + 2, none⟩ = some (.int .i64 n2) ∧ W.cell? ⟨b, off + 3, none⟩ = some (.int .i64 n3) ∧ W.cell? ⟨b, off + 4, none⟩ = some (.int .i64 n4) ∧ W.cell? ⟨b, off + 5, none⟩ = some (.int .i64 n5)) (by kernel_rfl) (by rw [hv0]; exact hC) (fun hHeld => ?_)
  rw [hv0] at hHeld ⊢
  clear hv0
  have hHeld2 := hC
  refine wpAnyH_take (i := 0) (oi := _) (v := ?_) rfl (by kernel_rfl) (by kernel_rfl) (by kernel_rfl) (fun _ _ _ h => h) (Or.inl ⟨by rfl, ?_⟩) (by assumption) ?_
  rotate_left
  · intro W hSw; (try dsimp only at hSw); go_simp; try with_reducible rfl
  try simp only [Act.put, List.setIfInBounds_toArray]
  refine wpAnyH_take (i := 1) (oi := _) (v := ?_) rfl (by kernel_rfl) (by kernel_rfl) (by kernel_rfl) (fun _ _ _ h => h) (Or.inl ⟨by rfl, ?_⟩) (by assumption) ?_
  rotate_left
  · intro W hSw; (try dsimp only at hSw); go_simp; try with_reducible rfl
  try simp only [Act.put]
  refine wpAnyH_take (i := 2) (oi := _) (v := ?_) rfl (by kernel_rfl) (by kernel_rfl) (by kernel_rfl) (fun _ _ _ h => h) (Or.inl ⟨by rfl, ?_⟩) (by assumption) ?_
  rotate_left
  · intro W hSw; (try dsimp only at hSw); go_simp; try with_reducible rfl
  try simp only [Act.put]
  refine wpAnyH_take (i := 3) (oi := _) (v := ?_) rfl (by kernel_rfl) (by kernel_rfl) (by kernel_rfl) (fun _ _ _ h => h) (Or.inl ⟨by rfl, ?_⟩) (by assumption) ?_
  rotate_left
  · intro W hSw; (try dsimp only at hSw); go_simp; try with_reducible rfl
  try simp only [Act.put]
  refine wpAnyH_take (i := 4) (oi := _) (v := ?_) rfl (by kernel_rfl) (by kernel_rfl) (by kernel_rfl) (fun _ _ _ h => h) (Or.inl ⟨by rfl, ?_⟩) (by assumption) ?_
  rotate_left
  · intro W hSw; (try dsimp only at hSw); go_simp; try with_reducible rfl
  try simp only [Act.put]
  refine wpAnyH_take (i := 5) (oi := _) (v := ?_) rfl (by kernel_rfl) (by kernel_rfl) (by kernel_rfl) (fun _ _ _ h => h) (Or.inl ⟨by rfl, ?_⟩) (by assumption) ?_
  rotate_left
  · intro W hSw; (try dsimp only at hSw); go_simp; try with_reducible rfl
  try simp only [Act.put]
  refine wpAnyH_take (i := 6) (oi := _) (v := ?_) rfl (by kernel_rfl) (by kernel_rfl) (by kernel_rfl) (fun _ _ _ h => h) (Or.inl ⟨by rfl, ?_⟩) (by assumption) ?_
  rotate_left
  · intro W hSw; (try dsimp only at hSw); go_simp; try with_reducible rfl
  try simp only [Act.put]
  refine wpAnyH_take (i := 7) (oi := _) (v := ?_) rfl (by kernel_rfl) (by kernel_rfl) (by kernel_rfl) (fun _ _ _ h => h) (Or.inl ⟨by rfl, ?_⟩) (by assumption) ?_
  rotate_left
  · intro W hSw; (try dsimp only at hSw); go_simp; try with_reducible rfl
  try simp only [Act.put]
  refine wpAnyH_take (i := 8) (oi := _) (v := ?_) rfl (by kernel_rfl) (by kernel_rfl) (by kernel_rfl) (fun _ _ _ h => h) (Or.inl ⟨by rfl, ?_⟩) (by assumption) ?_
  rotate_left
  · intro W hSw; (try dsimp only at hSw); go_simp; try with_reducible rfl
  try simp only [Act.put]
  refine wpAnyH_take (i := 9) (oi := _) (v := ?_) rfl (by kernel_rfl) (by kernel_rfl) (by kernel_rfl) (fun _ _ _ h => h) (Or.inl ⟨by rfl, ?_⟩) (by assumption) ?_
  rotate_left
  · intro W hSw; (try dsimp only at hSw); go_simp; try with_reducible rfl
  try simp only [Act.put]
  refine wpAnyH_take (i := 10) (oi := _) (v := ?_) rfl (by kernel_rfl) (by kernel_rfl) (by kernel_rfl) (fun _ _ _ h => h) (Or.inl ⟨by rfl, ?_⟩) (by assumption) ?_
  rotate_left
  · intro W hSw; (try dsimp only at hSw); go_simp; try with_reducible rfl
  try simp only [Act.put]
  refine wpAnyH_take (i := 11) (oi := _) (v := ?_) rfl (by kernel_rfl) (by kernel_rfl) (by kernel_rfl) (fun _ _ _ h => h) (Or.inl ⟨by rfl, ?_⟩) (by assumption) ?_
  rotate_left
  · intro W hSw; (try dsimp only at hSw); go_simp; try with_reducible rfl
  try simp only [Act.put]
  refine wpAnyH_take (i := 12) (oi := _) (v := ?_) rfl (by kernel_rfl) (by kernel_rfl) (by kernel_rfl) (fun _ _ _ h => h) (Or.inl ⟨by rfl, ?_⟩) (by assumption) ?_
  rotate_left
  · intro W hSw; (try dsimp only at hSw); go_simp; try with_reducible rfl
  try simp only [Act.put]
  refine wpAnyH_take (i := 13) (oi := _) (v := ?_) rfl (by kernel_rfl) (by kernel_rfl) (by kernel_rfl) (fun _ _ _ h => h) (Or.inl ⟨by rfl, ?_⟩) (by assumption) ?_
  rotate_left
  · intro W hSw; (try dsimp only at hSw); go_simp; try with_reducible rfl
  try simp only [Act.put]
  refine wpAnyH_take (i := 14) (oi := _) (v := ?_) rfl (by kernel_rfl) (by kernel_rfl) (by kernel_rfl) (fun _ _ _ h => h) (Or.inl ⟨by rfl, ?_⟩) (by assumption) ?_
  rotate_left
  · intro W hSw; (try dsimp only at hSw); go_simp; try with_reducible rfl
  try simp only [Act.put]
  refine wpAnyH_take (i := 15) (oi := _) (v := ?_) rfl (by kernel_rfl) (by kernel_rfl) (by kernel_rfl) (fun _ _ _ h => h) (Or.inl ⟨by rfl, ?_⟩) (by assumption) ?_
  rotate_left
  · intro W hSw; (try dsimp only at hSw); go_simp; try with_reducible rfl
  try simp only [Act.put]
  refine wpAnyH_take (i := 16) (oi := _) (v := ?_) rfl (by kernel_rfl) (by kernel_rfl) (by kernel_rfl) (fun _ _ _ h => h) (Or.inl ⟨by rfl, ?_⟩) (by assumption) ?_
  rotate_left
  · intro W hSw; (try dsimp only at hSw); go_simp; try with_reducible rfl
  try simp only [Act.put]
  refine wpAnyH_take (i := 17) (oi := _) (v := ?_) rfl (by kernel_rfl) (by kernel_rfl) (by kernel_rfl) (fun _ _ _ h => h) (Or.inl ⟨by rfl, ?_⟩) (by assumption) ?_
  rotate_left
  · intro W hSw; (try dsimp only at hSw); go_simp; try with_reducible rfl
  try simp only [Act.put]
  refine wpAnyH_take (i := 18) (oi := _) (v := ?_) rfl (by kernel_rfl) (by kernel_rfl) (by kernel_rfl) (fun _ _ _ h => h) (Or.inl ⟨by rfl, ?_⟩) (by assumption) ?_
  rotate_left
  · intro W hSw; (try dsimp only at hSw); go_simp; try with_reducible rfl
  try simp only [Act.put]
  refine wpAnyH_ready (rs := [19, 21]) (by kernel_rfl) (by simp) ?_
  refine AllReadyH.cons (o := _) rfl (fun K hK => ?_) ?_
  · go_simp
    go_at_call 66
    refine (text_any g s0 _ (HS0.out.2) (Nat.le_trans HL0.out (by decide))).mono ?_
    rintro e v1 ⟨rfl, hss1⟩
    rw [show tkText s0 = (t1, s1) from HT1.out] at hss1 ⊢
    simp only at hss1 ⊢
    have hz := hss1.1.size
    have HS1 : Hid (SsTo w g s1 v1) := Lib.hid (HS0.out.trans hss1)
    have HV : Hid (Vr v1 w.heap.size [.int .i64 0, .int .i64 0, .int .i64 0, .int .i64 0, .int .i64 0, .string ⟨#[]⟩, .int .i64 0, .int .i64 0, .int .i64 0, .int .i64 0, .int .i64 0, .string ⟨#[]⟩, .string ⟨#[]⟩, .slice none 0 0, .slice none 0 0, .int .i64 0, .string ⟨#[]⟩, .slice none 0 0, .slice none 0 0, .slice none 0 0, .slice none 0 0]) := Lib.hid (HV.out.grown hss1.1 (by omega))
    have HK : Hid (Keeps (w.heap.size + 1) v0 v1) := Lib.hid (HK.out.trans (keeps_grown hss1.1 (by omega)))
    have hC := HCW.out v1 HK.out
    have hsv1 : v0.heap.size ≤ v1.heap.size := hz
    clear hss1 hz
    go_wp2_with fail
    refine hK.out _ _ hC (fun hHeld => ?_)
    clear hK K
    try simp only [Act.put, List.setIfInBounds_toArray, List.set_cons_zero, List.set_cons_succ]
    refine wpAnyH_take (i := 20) (oi := _) (v := ?_) rfl (by kernel_rfl) (by kernel_rfl) (by kernel_rfl) (fun _ _ _ h => h) (Or.inl ⟨by rfl, ?_⟩) (by assumption) ?_
    rotate_left
    · intro W hSw; (try dsimp only at hSw); go_simp; try with_reducible rfl
    try simp only [Act.put, List.setIfInBounds_toArray]
    refine wpAnyH_ready (rs := [21]) (by kernel_rfl) (by simp) ?_
    refine AllReadyH.cons (o := _) rfl (fun K hK => ?_) AllReadyH.nil
    go_simp
    have HVp := HV
    have HKp := HK
    have HV : Hid (Vr (v1.alloc (.cells #[.int .i64 0, .int .i64 0, .int .i64 0, .int .i64 0, .int .i64 0, .string ⟨#[]⟩, .int .i64 0, .int .i64 0, .int .i64 0, .int .i64 0, .int .i64 0, .string ⟨#[]⟩, .string ⟨#[]⟩, .slice none 0 0, .slice none 0 0, .int .i64 0, .string ⟨#[]⟩, .slice none 0 0, .slice none 0 0, .slice none 0 0, .slice none 0 0] 36)) w.heap.size [.int .i64 0, .int .i64 0, .int .i64 0, .int .i64 0, .int .i64 0, .string ⟨#[]⟩, .int .i64 0, .int .i64 0, .int .i64 0, .int .i64 0, .int .i64 0, .string ⟨#[]⟩, .string ⟨#[]⟩, .slice none 0 0, .slice none 0 0, .int .i64 0, .string ⟨#[]⟩, .slice none 0 0, .slice none 0 0, .slice none 0 0, .slice none 0 0]) := Lib.hid (HV.out.below (below_new _ _))
    have HX : Hid (Vr (v1.alloc (.cells #[.int .i64 0, .int .i64 0, .int .i64 0, .int .i64 0, .int .i64 0, .string ⟨#[]⟩, .int .i64 0, .int .i64 0, .int .i64 0, .int .i64 0, .int .i64 0, .string ⟨#[]⟩, .string ⟨#[]⟩, .slice none 0 0, .slice none 0 0, .int .i64 0, .string ⟨#[]⟩, .slice none 0 0, .slice none 0 0, .slice none 0 0, .slice none 0 0] 36)) v1.heap.size [.int .i64 0, .int .i64 0, .int .i64 0, .int .i64 0, .int .i64 0, .string ⟨#[]⟩, .int .i64 0, .int .i64 0, .int .i64 0, .int .i64 0, .int .i64 0, .string ⟨#[]⟩, .string ⟨#[]⟩, .slice none 0 0, .slice none 0 0, .int .i64 0, .string ⟨#[]⟩, .slice none 0 0, .slice none 0 0, .slice none 0 0, .slice none 0 0]) := Lib.hid (Vr.new _ _ _)
    have HS1 : Hid (SsTo w g s1 (v1.alloc (.cells #[.int .i64 0, .int .i64 0, .int .i64 0, .int .i64 0, .int .i64 0, .string ⟨#[]⟩, .int .i64 0, .int .i64 0, .int .i64 0, .int .i64 0, .int .i64 0, .string ⟨#[]⟩, .string ⟨#[]⟩, .slice none 0 0, .slice none 0 0, .int .i64 0, .string ⟨#[]⟩, .slice none 0 0, .slice none 0 0, .slice none 0 0, .slice none 0 0] 36))) := Lib.hid (HS1.out.alloc _)
    have HK : Hid (Keeps (w.heap.size + 1) v0 (v1.alloc (.cells #[.int .i64 0, .int .i64 0, .int .i64 0, .int .i64 0, .int .i64 0, .string ⟨#[]⟩, .int .i64 0, .int .i64 0, .int .i64 0, .int .i64 0, .int .i64 0, .string ⟨#[]⟩, .string ⟨#[]⟩, .slice none 0 0, .slice none 0 0, .int .i64 0, .string ⟨#[]⟩, .slice none 0 0, .slice none 0 0, .slice none 0 0, .slice none 0 0] 36))) := Lib.hid (HK.out.trans (keeps_below _ (below_new _ _)))
    have hb4a : w.heap.size < v1.heap.size := HVp.out.lt
    have hv0b : v0.heap.size ≤ v1.heap.size := HKp.out.1
    have hzz : (v1.alloc (.cells #[.int .i64 0, .int .i64 0, .int .i64 0, .int .i64 0, .int .i64 0, .string ⟨#[]⟩, .int .i64 0, .int .i64 0, .int .i64 0, .int .i64 0, .int .i64 0, .string ⟨#[]⟩, .string ⟨#[]⟩, .slice none 0 0, .slice none 0 0, .int .i64 0, .string ⟨#[]⟩, .slice none 0 0, .slice none 0 0, .slice none 0 0, .slice none 0 0] 36)).heap.size = v1.heap.size + 1 := by simp
    generalize hvv : v1.alloc (.cells #[.int .i64 0, .int .i64 0, .int .i64 0, .int .i64 0, .int .i64 0, .string ⟨#[]⟩, .int .i64 0, .int .i64 0, .int .i64 0, .int .i64 0, .int .i64 0, .string ⟨#[]⟩, .string ⟨#[]⟩, .slice none 0 0, .slice none 0 0, .int .i64 0, .string ⟨#[]⟩, .slice none 0 0, .slice none 0 0, .slice none 0 0, .slice none 0 0] 36) = v2 at HV HX HS1 HK hzz  ⊢
    have hsv2 : v1.heap.size ≤ v2.heap.size := by omega
    generalize hb4e : v1.heap.size = b4 at HX hb4a hv0b hzz hsv2  ⊢
    have hb4 : b4 < v2.heap.size := by omega
    have hv0c : v0.heap.size ≤ b4 := by omega
    clear hvv hb4e hzz HVp HKp
    have hC := HCW.out v2 HK.out
    refine hK.out _ _ hC (fun hHeld => ?_)
    clear hK K
    try simp only [Act.put, List.setIfInBounds_toArray, List.set_cons_zero, List.set_cons_succ]
    refine wpAnyH_ready (rs := [22]) (by kernel_rfl) (by simp) ?_
    refine AllReadyH.cons (o := _) rfl (fun K hK => ?_) AllReadyH.nil
    rw [if_pos (by rfl)]
    refine wp_store_mid 36 _ _ rfl b4 0 (msC ⟨n0, n1, n2, n3, n4, t1, n5, sg0, Sl.nil, Sl.nil, ⟨0, [], Sl.nil, Sl.nil, Sl.nil⟩, Sl.nil⟩).toArray rfl rfl (HX.out.there rfl) (infoMsn ⟨n0, n1, n2, n3, n4, t1, n5, sg0, Sl.nil, Sl.nil, ⟨0, [], Sl.nil, Sl.nil, Sl.nil⟩, Sl.nil⟩) (msC_one' ⟨n0, n1, n2, n3, n4, t1, n5, sg0, Sl.nil, Sl.nil, ⟨0, [], Sl.nil, Sl.nil, Sl.nil⟩, Sl.nil⟩) ?_
    have HS : Hid (SsTo w g s1 (v2.setCells b4 0 (msC ⟨n0, n1, n2, n3, n4, t1, n5, sg0, Sl.nil, Sl.nil, ⟨0, [], Sl.nil, Sl.nil, Sl.nil⟩, Sl.nil⟩))) := Lib.hid (HS1.out.own (grown_vs (b := b4) (msC ⟨n0, n1, n2, n3, n4, t1, n5, sg0, Sl.nil, Sl.nil, ⟨0, [], Sl.nil, Sl.nil, Sl.nil⟩, Sl.nil⟩)) (by omega) (by omega))
    have HV : Hid (Vr (v2.setCells b4 0 (msC ⟨n0, n1, n2, n3, n4, t1, n5, sg0, Sl.nil, Sl.nil, ⟨0, [], Sl.nil, Sl.nil, Sl.nil⟩, Sl.nil⟩)) w.heap.size [.int .i64 0, .int .i64 0, .int .i64 0, .int .i64 0, .int .i64 0, .string ⟨#[]⟩, .int .i64 0, .int .i64 0, .int .i64 0, .int .i64 0, .int .i64 0, .string ⟨#[]⟩, .string ⟨#[]⟩, .slice none 0 0, .slice none 0 0, .int .i64 0, .string ⟨#[]⟩, .slice none 0 0, .slice none 0 0, .slice none 0 0, .slice none 0 0]) := Lib.hid (HV.out.grown (grown_vs (b := b4) (msC ⟨n0, n1, n2, n3, n4, t1, n5, sg0, Sl.nil, Sl.nil, ⟨0, [], Sl.nil, Sl.nil, Sl.nil⟩, Sl.nil⟩)) (by omega))
    have HX : Hid (Vr (v2.setCells b4 0 (msC ⟨n0, n1, n2, n3, n4, t1, n5, sg0, Sl.nil, Sl.nil, ⟨0, [], Sl.nil, Sl.nil, Sl.nil⟩, Sl.nil⟩)) b4 (msC ⟨n0, n1, n2, n3, n4, t1, n5, sg0, Sl.nil, Sl.nil, ⟨0, [], Sl.nil, Sl.nil, Sl.nil⟩, Sl.nil⟩)) := Lib.hid (HX.out.sets (msC ⟨n0, n1, n2, n3, n4, t1, n5, sg0, Sl.nil, Sl.nil, ⟨0, [], Sl.nil, Sl.nil, Sl.nil⟩, Sl.nil⟩) rfl)
    have hC : (v2.setCells b4 0 (msC ⟨n0, n1, n2, n3, n4, t1, n5, sg0, Sl.nil, Sl.nil, ⟨0, [], Sl.nil, Sl.nil, Sl.nil⟩, Sl.nil⟩)).cell? ⟨b, off, none⟩ = some (.int .i64 n0) ∧ (v2.setCells b4 0 (msC ⟨n0, n1, n2, n3, n4, t1, n5, sg0, Sl.nil, Sl.nil, ⟨0, [], Sl.nil, Sl.nil, Sl.nil⟩, Sl.nil⟩)).cell? ⟨b, off + 1, none⟩ = some (.int .i64 n1) ∧ (v2.setCells b4 0 (msC ⟨n0, n1, n2, n3, n4, t1, n5, sg0, Sl.nil, Sl.nil, ⟨0, [], Sl.nil, Sl.nil, Sl.nil⟩, Sl.nil⟩)).cell? ⟨b, off + 2, none⟩ = some (.int .i64 n2) ∧ (v2.setCells b4 0 (msC ⟨n0, n1, n2, n3, n4, t1, n5, sg0, Sl.nil, Sl.nil, ⟨0, [], Sl.nil, Sl.nil, Sl.nil⟩, Sl.nil⟩)).cell? ⟨b, off + 3, none⟩ = some (.int .i64 n3) ∧ (v2.setCells b4 0 (msC ⟨n0, n1, n2, n3, n4, t1, n5, sg0, Sl.nil, Sl.nil, ⟨0, [], Sl.nil, Sl.nil, Sl.nil⟩, Sl.nil⟩)).cell? ⟨b, off + 4, none⟩ = some (.int .i64 n4) ∧ (v2.setCells b4 0 (msC ⟨n0, n1, n2, n3, n4, t1, n5, sg0, Sl.nil, Sl.nil, ⟨0, [], Sl.nil, Sl.nil, Sl.nil⟩, Sl.nil⟩)).cell? ⟨b, off + 5, none⟩ = some (.int .i64 n5) := HCW.out _ (keeps_row2 HK.out (grown_vs (b := b4) (msC ⟨n0, n1, n2, n3, n4, t1, n5, sg0, Sl.nil, Sl.nil, ⟨0, [], Sl.nil, Sl.nil, Sl.nil⟩, Sl.nil⟩)) (Or.inr (by omega)))
    refine hK.out _ _ hC (fun hHeld => ?_)
    clear hK K
    try simp only [Act.put, List.setIfInBounds_toArray]
    refine wpAnyH_done (by kernel_rfl) ?_ _
    refine NoPanic.normal ?_
    try simp only [List.toList_toArray]
    generalize v2.setCells b4 0 (msC ⟨n0, n1, n2, n3, n4, t1, n5, sg0, Sl.nil, Sl.nil, ⟨0, [], Sl.nil, Sl.nil, Sl.nil⟩, Sl.nil⟩) = u0 at HS HV HX  ⊢
    clear hC hHeld2 HK
    go_wp2_with fail
    refine (text_any g s1 _ HS.out.2 (Nat.le_trans HL1.out (by decide))).mono ?_
    rintro e u1 ⟨rfl, hss⟩
    rw [show tkText s1 = (t2, s2) from HT2.out] at hss ⊢
    simp only at hss ⊢
    have hsz1 := hss.1.size
    have HV : Hid (Vr u1 w.heap.size [.int .i64 0, .int .i64 0, .int .i64 0, .int .i64 0, .int .i64 0, .string ⟨#[]⟩, .int .i64 0, .int .i64 0, .int .i64 0, .int .i64 0, .int .i64 0, .string ⟨#[]⟩, .string ⟨#[]⟩, .slice none 0 0, .slice none 0 0, .int .i64 0, .string ⟨#[]⟩, .slice none 0 0, .slice none 0 0, .slice none 0 0, .slice none 0 0]) := Lib.hid (HV.out.grown hss.1 (by omega))
    have HX := Lib.hid (HX.out.grown hss.1 (by omega))
    have HS : Hid (SsTo w g s2 u1) := Lib.hid (HS.out.trans hss)
    clear hss
    go_wp2_with fail
    refine (partSg_any g s2 t2 _ HS.out.2 (fun q W hW => signature_x q ⟨t2, false⟩ W hW (Nat.le_trans HTL2.out (by decide)))).mono ?_
    rintro e u2 ⟨x3, he, hx, hst3, hss⟩
    obtain rfl : e = .returned (.agg #[.int .i64 x3.server, .int .i64 x3.kind, .int .i64 x3.view, .int .i64 x3.slot, .string ⟨x3.digest.toArray⟩, .string ⟨x3.sig.toArray⟩]) := he
    rw [show tkPart tkSg t2 s2 = (t3, s3) from HT3.out] at hss hx
    simp only at hss hx
    have HX3 := Lib.hid hx
    clear hx
    have HR3 := Lib.hid (held_new (a := w.heap.size + 1) (b4 := b4) hst3 (by have := HX.out.lt; omega) (Or.inl (by have := HX.out.lt; omega)))
    have hsz2 := hss.1.size
    have HV : Hid (Vr u2 w.heap.size [.int .i64 0, .int .i64 0, .int .i64 0, .int .i64 0, .int .i64 0, .string ⟨#[]⟩, .int .i64 0, .int .i64 0, .int .i64 0, .int .i64 0, .int .i64 0, .string ⟨#[]⟩, .string ⟨#[]⟩, .slice none 0 0, .slice none 0 0, .int .i64 0, .string ⟨#[]⟩, .slice none 0 0, .slice none 0 0, .slice none 0 0, .slice none 0 0]) := Lib.hid (HV.out.grown hss.1 (by omega))
    have HX := Lib.hid (HX.out.grown hss.1 (by omega))
    have HS : Hid (SsTo w g s3 u2) := Lib.hid (HS.out.trans hss)
    clear hss hst3
    go_upto_region 4 with (refine wpList_store_mid rfl 24 _ _ rfl b4 7 (sgC x3).toArray rfl rfl (HX.out.there_at 7 6 (of_decide_eq_true rfl)) (infoSgN x3) (sgC_one x3) ?_)
    try simp only [List.toList_toArray]
    have HS : Hid (SsTo w g s3 (u2.setCells b4 7 (sgC x3))) := Lib.hid (HS.out.own (grown_vs_at (b := b4) (o := 7) (sgC x3)) (by omega) (by omega))
    have HV : Hid (Vr (u2.setCells b4 7 (sgC x3)) w.heap.size [.int .i64 0, .int .i64 0, .int .i64 0, .int .i64 0, .int .i64 0, .string ⟨#[]⟩, .int .i64 0, .int .i64 0, .int .i64 0, .int .i64 0, .int .i64 0, .string ⟨#[]⟩, .string ⟨#[]⟩, .slice none 0 0, .slice none 0 0, .int .i64 0, .string ⟨#[]⟩, .slice none 0 0, .slice none 0 0, .slice none 0 0, .slice none 0 0]) := Lib.hid (HV.out.grown (grown_vs_at (b := b4) (o := 7) (sgC x3)) (by omega))
    have HX : Hid (Vr (u2.setCells b4 7 (sgC x3)) b4 (msC ⟨n0, n1, n2, n3, n4, t1, n5, x3, Sl.nil, Sl.nil, ⟨0, [], Sl.nil, Sl.nil, Sl.nil⟩, Sl.nil⟩)) := Lib.hid ((HX.out.sets_at 7 (sgC x3) (of_decide_eq_true rfl)).eq rfl)
    have HR3 := Lib.hid (HR3.out.row (grown_vs_at (b := b4) (o := 7) (sgC x3)) (Or.inr rfl))
    generalize u2.setCells b4 7 (sgC x3) = u3 at HS HV HX HR3 ⊢
    go_wp2_with fail
    refine (partsSt_any g s3 _ HS.out.2 HL3.out (fun t ht q W hW => readStatus_any q ⟨t, false⟩ W hW (Nat.le_trans ht HL3.out))).mono ?_
    rintro e u4 ⟨x4, rfl, hx, hst4, hss⟩
    rw [show tkParts tkSt s3 = (t4, s4) from HT4.out] at hss hx
    simp only at hss hx
    have HX4 := Lib.hid hx
    clear hx
    have HR4 := Lib.hid (held_new (a := w.heap.size + 1) (b4 := b4) hst4 (by have := HX.out.lt; omega) (Or.inl (by have := HX.out.lt; omega)))
    have hsz4 := hss.1.size
    have HV : Hid (Vr u4 w.heap.size [.int .i64 0, .int .i64 0, .int .i64 0, .int .i64 0, .int .i64 0, .string ⟨#[]⟩, .int .i64 0, .int .i64 0, .int .i64 0, .int .i64 0, .int .i64 0, .string ⟨#[]⟩, .string ⟨#[]⟩, .slice none 0 0, .slice none 0 0, .int .i64 0, .string ⟨#[]⟩, .slice none 0 0, .slice none 0 0, .slice none 0 0, .slice none 0 0]) := Lib.hid (HV.out.grown hss.1 (by omega))
    have HX := Lib.hid (HX.out.grown hss.1 (by omega))
    have HR3 := Lib.hid (HR3.out.row hss.1 (Or.inl (by omega)))
    have HS : Hid (SsTo w g s4 u4) := Lib.hid (HS.out.trans hss)
    clear hss hst4
    go_wp2_with fail
    refine (partsDe_any g s4 _ HS.out.2 HL4.out (fun t ht q W hW => readEntry_any q ⟨t, false⟩ W hW (Nat.le_trans ht HL4.out))).mono ?_
    rintro e u5 ⟨x5, rfl, hx, hst5, hss⟩
    rw [show tkParts tkDe s4 = (t5, s5) from HT5.out] at hss hx
    simp only at hss hx
    have HX5 := Lib.hid hx
    clear hx
    have HR5 := Lib.hid (held_new (a := w.heap.size + 1) (b4 := b4) hst5 (by have := HX.out.lt; omega) (Or.inl (by have := HX.out.lt; omega)))
    have hsz5 := hss.1.size
    have HV : Hid (Vr u5 w.heap.size [.int .i64 0, .int .i64 0, .int .i64 0, .int .i64 0, .int .i64 0, .string ⟨#[]⟩, .int .i64 0, .int .i64 0, .int .i64 0, .int .i64 0, .int .i64 0, .string ⟨#[]⟩, .string ⟨#[]⟩, .slice none 0 0, .slice none 0 0, .int .i64 0, .string ⟨#[]⟩, .slice none 0 0, .slice none 0 0, .slice none 0 0, .slice none 0 0]) := Lib.hid (HV.out.grown hss.1 (by omega))
    have HX := Lib.hid (HX.out.grown hss.1 (by omega))
    have HR3 := Lib.hid (HR3.out.row hss.1 (Or.inl (by omega)))
    have HR4 := Lib.hid (HR4.out.row hss.1 (Or.inl (by omega)))
    have HS : Hid (SsTo w g s5 u5) := Lib.hid (HS.out.trans hss)
    clear hss hst5
    have c13x := HX.out.cells 13 _ rfl
    have f13x := HX.out.free 13 (of_decide_eq_true rfl)
    have c14x := HX.out.cells 14 _ rfl
    have f14x := HX.out.free 14 (of_decide_eq_true rfl)
    have lx := HX.out.lt
    go_upto_region 5 with fail
    have HS : Hid (SsTo w g s5 ((u5.setCell ⟨b4, 13, none⟩ (.slice x4.a x4.l.length x4.c)).setCell ⟨b4, 14, none⟩ (.slice x5.a x5.l.length x5.c))) := Lib.hid ((HS.out.own (grown_set u5 ⟨b4, 13, none⟩ (.slice x4.a x4.l.length x4.c)) (by show w.heap.size ≤ b4; omega) (by show g ≠ b4; omega)).own (grown_set ((u5.setCell ⟨b4, 13, none⟩ (.slice x4.a x4.l.length x4.c))) ⟨b4, 14, none⟩ (.slice x5.a x5.l.length x5.c)) (by show w.heap.size ≤ b4; omega) (by show g ≠ b4; omega))
    have HV : Hid (Vr ((u5.setCell ⟨b4, 13, none⟩ (.slice x4.a x4.l.length x4.c)).setCell ⟨b4, 14, none⟩ (.slice x5.a x5.l.length x5.c)) w.heap.size [.int .i64 0, .int .i64 0, .int .i64 0, .int .i64 0, .int .i64 0, .string ⟨#[]⟩, .int .i64 0, .int .i64 0, .int .i64 0, .int .i64 0, .int .i64 0, .string ⟨#[]⟩, .string ⟨#[]⟩, .slice none 0 0, .slice none 0 0, .int .i64 0, .string ⟨#[]⟩, .slice none 0 0, .slice none 0 0, .slice none 0 0, .slice none 0 0]) := Lib.hid ((HV.out.grown (grown_set u5 ⟨b4, 13, none⟩ (.slice x4.a x4.l.length x4.c)) (by show w.heap.size ≠ b4; omega)).grown (grown_set ((u5.setCell ⟨b4, 13, none⟩ (.slice x4.a x4.l.length x4.c))) ⟨b4, 14, none⟩ (.slice x5.a x5.l.length x5.c)) (by show w.heap.size ≠ b4; omega))
    have HX : Hid (Vr ((u5.setCell ⟨b4, 13, none⟩ (.slice x4.a x4.l.length x4.c)).setCell ⟨b4, 14, none⟩ (.slice x5.a x5.l.length x5.c)) b4 (msC ⟨n0, n1, n2, n3, n4, t1, n5, x3, x4, x5, ⟨0, [], Sl.nil, Sl.nil, Sl.nil⟩, Sl.nil⟩)) := Lib.hid (((HX.out.set 13 (.slice x4.a x4.l.length x4.c)).set 14 (.slice x5.a x5.l.length x5.c)).eq rfl)
    have HR3 := Lib.hid ((HR3.out.row (grown_set u5 ⟨b4, 13, none⟩ (.slice x4.a x4.l.length x4.c)) (Or.inr rfl)).row (grown_set ((u5.setCell ⟨b4, 13, none⟩ (.slice x4.a x4.l.length x4.c))) ⟨b4, 14, none⟩ (.slice x5.a x5.l.length x5.c)) (Or.inr rfl))
    have HR4 := Lib.hid ((HR4.out.row (grown_set u5 ⟨b4, 13, none⟩ (.slice x4.a x4.l.length x4.c)) (Or.inr rfl)).row (grown_set ((u5.setCell ⟨b4, 13, none⟩ (.slice x4.a x4.l.length x4.c))) ⟨b4, 14, none⟩ (.slice x5.a x5.l.length x5.c)) (Or.inr rfl))
    have HR5 := Lib.hid ((HR5.out.row (grown_set u5 ⟨b4, 13, none⟩ (.slice x4.a x4.l.length x4.c)) (Or.inr rfl)).row (grown_set ((u5.setCell ⟨b4, 13, none⟩ (.slice x4.a x4.l.length x4.c))) ⟨b4, 14, none⟩ (.slice x5.a x5.l.length x5.c)) (Or.inr rfl))
    clear lx c13x f13x c14x f14x
    generalize ((u5.setCell ⟨b4, 13, none⟩ (.slice x4.a x4.l.length x4.c)).setCell ⟨b4, 14, none⟩ (.slice x5.a x5.l.length x5.c)) = u6 at HS HV HX HR3 HR4 HR5 ⊢
    go_wp2_with fail
    refine (text_any g s5 _ HS.out.2 (Nat.le_trans HL5.out (by decide))).mono ?_
    rintro e u7 ⟨rfl, hss⟩
    rw [show tkText s5 = (t6, s6) from HT6.out] at hss ⊢
    simp only at hss ⊢
    have hsz7 := hss.1.size
    have HV : Hid (Vr u7 w.heap.size [.int .i64 0, .int .i64 0, .int .i64 0, .int .i64 0, .int .i64 0, .string ⟨#[]⟩, .int .i64 0, .int .i64 0, .int .i64 0, .int .i64 0, .int .i64 0, .string ⟨#[]⟩, .string ⟨#[]⟩, .slice none 0 0, .slice none 0 0, .int .i64 0, .string ⟨#[]⟩, .slice none 0 0, .slice none 0 0, .slice none 0 0, .slice none 0 0]) := Lib.hid (HV.out.grown hss.1 (by omega))
    have HX := Lib.hid (HX.out.grown hss.1 (by omega))
    have HR3 := Lib.hid (HR3.out.row hss.1 (Or.inl (by omega)))
    have HR4 := Lib.hid (HR4.out.row hss.1 (Or.inl (by omega)))
    have HR5 := Lib.hid (HR5.out.row hss.1 (Or.inl (by omega)))
    have HS : Hid (SsTo w g s6 u7) := Lib.hid (HS.out.trans hss)
    clear hss
    go_wp2_with fail
    refine (partSn_any g s6 t6 _ HS.out.2 (fun q W hW => readSnapshot_any q ⟨t6, false⟩ W hW HTL6.out)).mono ?_
    rintro e u8 ⟨x7, he, hx, hst7, hss⟩
    obtain rfl : e = .returned (.agg #[.int .i64 x7.slot, .string ⟨x7.root.toArray⟩, .slice x7.chunks.a x7.chunks.l.length x7.chunks.c, .slice x7.proof.a x7.proof.l.length x7.proof.c, .slice x7.chain.a x7.chain.l.length x7.chain.c]) := he
    rw [show tkPart tkSn t6 s6 = (t7, s7) from HT7.out] at hss hx
    simp only at hss hx
    have HX7 := Lib.hid hx
    clear hx
    have HR7 := Lib.hid (held_new (a := w.heap.size + 1) (b4 := b4) hst7 (by have := HX.out.lt; omega) (Or.inl (by have := HX.out.lt; omega)))
    have hsz8 := hss.1.size
    have HV : Hid (Vr u8 w.heap.size [.int .i64 0, .int .i64 0, .int .i64 0, .int .i64 0, .int .i64 0, .string ⟨#[]⟩, .int .i64 0, .int .i64 0, .int .i64 0, .int .i64 0, .int .i64 0, .string ⟨#[]⟩, .string ⟨#[]⟩, .slice none 0 0, .slice none 0 0, .int .i64 0, .string ⟨#[]⟩, .slice none 0 0, .slice none 0 0, .slice none 0 0, .slice none 0 0]) := Lib.hid (HV.out.grown hss.1 (by omega))
    have HX := Lib.hid (HX.out.grown hss.1 (by omega))
    have HR3 := Lib.hid (HR3.out.row hss.1 (Or.inl (by omega)))
    have HR4 := Lib.hid (HR4.out.row hss.1 (Or.inl (by omega)))
    have HR5 := Lib.hid (HR5.out.row hss.1 (Or.inl (by omega)))
    have HS : Hid (SsTo w g s7 u8) := Lib.hid (HS.out.trans hss)
    clear hss hst7
    go_upto_region 6 with (refine wpList_store_mid rfl 34 _ _ rfl b4 15 (snC x7).toArray rfl rfl (HX.out.there_at 15 5 (of_decide_eq_true rfl)) (infoSnn x7) (snC_one' x7) ?_)
    try simp only [List.toList_toArray]
    have HS : Hid (SsTo w g s7 (u8.setCells b4 15 (snC x7))) := Lib.hid (HS.out.own (grown_vs_at (b := b4) (o := 15) (snC x7)) (by omega) (by omega))
    have HV : Hid (Vr (u8.setCells b4 15 (snC x7)) w.heap.size [.int .i64 0, .int .i64 0, .int .i64 0, .int .i64 0, .int .i64 0, .string ⟨#[]⟩, .int .i64 0, .int .i64 0, .int .i64 0, .int .i64 0, .int .i64 0, .string ⟨#[]⟩, .string ⟨#[]⟩, .slice none 0 0, .slice none 0 0, .int .i64 0, .string ⟨#[]⟩, .slice none 0 0, .slice none 0 0, .slice none 0 0, .slice none 0 0]) := Lib.hid (HV.out.grown (grown_vs_at (b := b4) (o := 15) (snC x7)) (by omega))
    have HX : Hid (Vr (u8.setCells b4 15 (snC x7)) b4 (msC ⟨n0, n1, n2, n3, n4, t1, n5, x3, x4, x5, x7, Sl.nil⟩)) := Lib.hid ((HX.out.sets_at 15 (snC x7) (of_decide_eq_true rfl)).eq rfl)
    have HR3 := Lib.hid (HR3.out.row (grown_vs_at (b := b4) (o := 15) (snC x7)) (Or.inr rfl))
    have HR4 := Lib.hid (HR4.out.row (grown_vs_at (b := b4) (o := 15) (snC x7)) (Or.inr rfl))
    have HR5 := Lib.hid (HR5.out.row (grown_vs_at (b := b4) (o := 15) (snC x7)) (Or.inr rfl))
    have HR7 := Lib.hid (HR7.out.row (grown_vs_at (b := b4) (o := 15) (snC x7)) (Or.inr rfl))
    generalize u8.setCells b4 15 (snC x7) = u9 at HS HV HX HR3 HR4 HR5 HR7 ⊢
    go_wp2_with fail
    refine (texts_any g s7 _ HS.out.2 (Nat.le_trans HL7.out (by decide))).mono ?_
    rintro e u10 ⟨a8, c8, he, hst8, hss⟩
    rw [show tkTexts s7 = (t8, s8) from HT8.out] at hss hst8 he
    simp only at hss hst8 he
    subst he
    have HR8 := Lib.hid (held_new (a := w.heap.size + 1) (b4 := b4) hst8 (by have := HX.out.lt; omega) (Or.inl (by have := HX.out.lt; omega)))
    have hsz10 := hss.1.size
    have HV : Hid (Vr u10 w.heap.size [.int .i64 0, .int .i64 0, .int .i64 0, .int .i64 0, .int .i64 0, .string ⟨#[]⟩, .int .i64 0, .int .i64 0, .int .i64 0, .int .i64 0, .int .i64 0, .string ⟨#[]⟩, .string ⟨#[]⟩, .slice none 0 0, .slice none 0 0, .int .i64 0, .string ⟨#[]⟩, .slice none 0 0, .slice none 0 0, .slice none 0 0, .slice none 0 0]) := Lib.hid (HV.out.grown hss.1 (by omega))
    have HX := Lib.hid (HX.out.grown hss.1 (by omega))
    have HR3 := Lib.hid (HR3.out.row hss.1 (Or.inl (by omega)))
    have HR4 := Lib.hid (HR4.out.row hss.1 (Or.inl (by omega)))
    have HR5 := Lib.hid (HR5.out.row hss.1 (Or.inl (by omega)))
    have HR7 := Lib.hid (HR7.out.row hss.1 (Or.inl (by omega)))
    have HS : Hid (SsTo w g s8 u10) := Lib.hid (HS.out.trans hss)
    clear hss hst8
    have c20x := HX.out.cells 20 _ rfl
    have f20x := HX.out.free 20 (of_decide_eq_true rfl)
    have lx := HX.out.lt
    go_upto_region 7 with fail
    have HS : Hid (SsTo w g s8 (u10.setCell ⟨b4, 20, none⟩ (.slice a8 t8.length c8))) := Lib.hid (HS.out.own (grown_set u10 ⟨b4, 20, none⟩ (.slice a8 t8.length c8)) (by show w.heap.size ≤ b4; omega) (by show g ≠ b4; omega))
    have HV : Hid (Vr (u10.setCell ⟨b4, 20, none⟩ (.slice a8 t8.length c8)) w.heap.size [.int .i64 0, .int .i64 0, .int .i64 0, .int .i64 0, .int .i64 0, .string ⟨#[]⟩, .int .i64 0, .int .i64 0, .int .i64 0, .int .i64 0, .int .i64 0, .string ⟨#[]⟩, .string ⟨#[]⟩, .slice none 0 0, .slice none 0 0, .int .i64 0, .string ⟨#[]⟩, .slice none 0 0, .slice none 0 0, .slice none 0 0, .slice none 0 0]) := Lib.hid (HV.out.grown (grown_set u10 ⟨b4, 20, none⟩ (.slice a8 t8.length c8)) (by show w.heap.size ≠ b4; omega))
    have HX : Hid (Vr (u10.setCell ⟨b4, 20, none⟩ (.slice a8 t8.length c8)) b4 (msC ⟨n0, n1, n2, n3, n4, t1, n5, x3, x4, x5, x7, ⟨a8, c8, t8⟩⟩)) := Lib.hid ((HX.out.set 20 (.slice a8 t8.length c8)).eq rfl)
    have HR3 := Lib.hid (HR3.out.row (grown_set u10 ⟨b4, 20, none⟩ (.slice a8 t8.length c8)) (Or.inr rfl))
    have HR4 := Lib.hid (HR4.out.row (grown_set u10 ⟨b4, 20, none⟩ (.slice a8 t8.length c8)) (Or.inr rfl))
    have HR5 := Lib.hid (HR5.out.row (grown_set u10 ⟨b4, 20, none⟩ (.slice a8 t8.length c8)) (Or.inr rfl))
    have HR7 := Lib.hid (HR7.out.row (grown_set u10 ⟨b4, 20, none⟩ (.slice a8 t8.length c8)) (Or.inr rfl))
    have HR8 := Lib.hid (HR8.out.row (grown_set u10 ⟨b4, 20, none⟩ (.slice a8 t8.length c8)) (Or.inr rfl))
    clear lx c20x f20x
    generalize (u10.setCell ⟨b4, 20, none⟩ (.slice a8 t8.length c8)) = u11 at HS HV HX HR3 HR4 HR5 HR7 HR8 ⊢
    go_wp2_with (first
      | (refine wpList_load_mid rfl 36 _ rfl b4 0 rfl (msC ⟨n0, n1, n2, n3, n4, t1, n5, x3, x4, x5, x7, ⟨a8, c8, t8⟩⟩) _ HX.out.range Tryz.underlying36 rfl (infoMsn ⟨n0, n1, n2, n3, n4, t1, n5, x3, x4, x5, x7, ⟨a8, c8, t8⟩⟩) ?_)
      | (refine wpList_store_mid rfl 36 _ _ rfl w.heap.size 0 (msC ⟨n0, n1, n2, n3, n4, t1, n5, x3, x4, x5, x7, ⟨a8, c8, t8⟩⟩).toArray rfl rfl (HV.out.there rfl) (infoMsn ⟨n0, n1, n2, n3, n4, t1, n5, x3, x4, x5, x7, ⟨a8, c8, t8⟩⟩) (msC_one' ⟨n0, n1, n2, n3, n4, t1, n5, x3, x4, x5, x7, ⟨a8, c8, t8⟩⟩) ?_))
    have HSe := Lib.hid (HS.out.own (grown_vs (b := w.heap.size) (msC ⟨n0, n1, n2, n3, n4, t1, n5, x3, x4, x5, x7, ⟨a8, c8, t8⟩⟩)) (Nat.le_refl _) (by omega))
    have HVe := Lib.hid (HV.out.sets (msC ⟨n0, n1, n2, n3, n4, t1, n5, x3, x4, x5, x7, ⟨a8, c8, t8⟩⟩) rfl)
    refine bodyPost_ret (v := .agg (msC ⟨n0, n1, n2, n3, n4, t1, n5, x3, x4, x5, x7, ⟨a8, c8, t8⟩⟩).toArray) ?_ rfl (ret_x (x := ⟨n0, n1, n2, n3, n4, t1, n5, x3, x4, x5, x7, ⟨a8, c8, t8⟩⟩) HSpec.out rfl ?_ ?_ HSe.out)
    · exact results_mid Tryz.results35 _ _ w.heap.size (msC ⟨n0, n1, n2, n3, n4, t1, n5, x3, x4, x5, x7, ⟨a8, c8, t8⟩⟩) _ rfl HVe.out.range Tryz.underlying36 rfl (infoMsn ⟨n0, n1, n2, n3, n4, t1, n5, x3, x4, x5, x7, ⟨a8, c8, t8⟩⟩)
    · show Ms.mk n0 n1 n2 n3 n4 t1 n5 x3 (Sl.of (x4.l.map St.er)) (Sl.of (x5.l.map De.er)) x7.er (Sl.er ⟨a8, c8, t8⟩) = _
      have h3 : x3 = t3 := HX3.out
      rw [h3, HX4.out, HX5.out, HX7.out]; rfl
    · exact fun W hW => ⟨⟨HN64.out n0 (by simp), HN64.out n1 (by simp), HN64.out n2 (by simp), HN64.out n3 (by simp), HN64.out n4 (by simp), HN64.out n5 (by simp)⟩, ((HR3.out.row (grown_vs (b := w.heap.size) _) (Or.inl (by omega))).stays.low (by omega)) W hW, ⟨(((HR4.out.row (grown_vs (b := w.heap.size) _) (Or.inl (by omega))).stays.low (by omega)) W hW).1, (((HR4.out.row (grown_vs (b := w.heap.size) _) (Or.inl (by omega))).stays.low (by omega)) W hW).2⟩, ⟨(((HR5.out.row (grown_vs (b := w.heap.size) _) (Or.inl (by omega))).stays.low (by omega)) W hW).1, (((HR5.out.row (grown_vs (b := w.heap.size) _) (Or.inl (by omega))).stays.low (by omega)) W hW).2⟩, ((HR7.out.row (grown_vs (b := w.heap.size) _) (Or.inl (by omega))).stays.low (by omega)) W hW, by have h9 := ((HR8.out.row (grown_vs (b := w.heap.size) _) (Or.inl (by omega))).stays.low (by omega)) W hW; show Rd W 1 a8 t8.length (t8.flatMap strV); rw [strV_strC]; exact h9⟩
  refine AllReadyH.cons (o := _) rfl (fun K hK => ?_) AllReadyH.nil
  go_simp
  have HVp := HV
  have HKp := HK
  have HV : Hid (Vr (v0.alloc (.cells #[.int .i64 0, .int .i64 0, .int .i64 0, .int .i64 0, .int .i64 0, .string ⟨#[]⟩, .int .i64 0, .int .i64 0, .int .i64 0, .int .i64 0, .int .i64 0, .string ⟨#[]⟩, .string ⟨#[]⟩, .slice none 0 0, .slice none 0 0, .int .i64 0, .string ⟨#[]⟩, .slice none 0 0, .slice none 0 0, .slice none 0 0, .slice none 0 0] 36)) w.heap.size [.int .i64 0, .int .i64 0, .int .i64 0, .int .i64 0, .int .i64 0, .string ⟨#[]⟩, .int .i64 0, .int .i64 0, .int .i64 0, .int .i64 0, .int .i64 0, .string ⟨#[]⟩, .string ⟨#[]⟩, .slice none 0 0, .slice none 0 0, .int .i64 0, .string ⟨#[]⟩, .slice none 0 0, .slice none 0 0, .slice none 0 0, .slice none 0 0]) := Lib.hid (HV.out.below (below_new _ _))
  have HX : Hid (Vr (v0.alloc (.cells #[.int .i64 0, .int .i64 0, .int .i64 0, .int .i64 0, .int .i64 0, .string ⟨#[]⟩, .int .i64 0, .int .i64 0, .int .i64 0, .int .i64 0, .int .i64 0, .string ⟨#[]⟩, .string ⟨#[]⟩, .slice none 0 0, .slice none 0 0, .int .i64 0, .string ⟨#[]⟩, .slice none 0 0, .slice none 0 0, .slice none 0 0, .slice none 0 0] 36)) v0.heap.size [.int .i64 0, .int .i64 0, .int .i64 0, .int .i64 0, .int .i64 0, .string ⟨#[]⟩, .int .i64 0, .int .i64 0, .int .i64 0, .int .i64 0, .int .i64 0, .string ⟨#[]⟩, .string ⟨#[]⟩, .slice none 0 0, .slice none 0 0, .int .i64 0, .string ⟨#[]⟩, .slice none 0 0, .slice none 0 0, .slice none 0 0, .slice none 0 0]) := Lib.hid (Vr.new _ _ _)
  have HS0 : Hid (SsTo w g s0 (v0.alloc (.cells #[.int .i64 0, .int .i64 0, .int .i64 0, .int .i64 0, .int .i64 0, .string ⟨#[]⟩, .int .i64 0, .int .i64 0, .int .i64 0, .int .i64 0, .int .i64 0, .string ⟨#[]⟩, .string ⟨#[]⟩, .slice none 0 0, .slice none 0 0, .int .i64 0, .string ⟨#[]⟩, .slice none 0 0, .slice none 0 0, .slice none 0 0, .slice none 0 0] 36))) := Lib.hid (HS0.out.alloc _)
  have HK : Hid (Keeps (w.heap.size + 1) v0 (v0.alloc (.cells #[.int .i64 0, .int .i64 0, .int .i64 0, .int .i64 0, .int .i64 0, .string ⟨#[]⟩, .int .i64 0, .int .i64 0, .int .i64 0, .int .i64 0, .int .i64 0, .string ⟨#[]⟩, .string ⟨#[]⟩, .slice none 0 0, .slice none 0 0, .int .i64 0, .string ⟨#[]⟩, .slice none 0 0, .slice none 0 0, .slice none 0 0, .slice none 0 0] 36))) := Lib.hid (HK.out.trans (keeps_below _ (below_new _ _)))
  have hb4a : w.heap.size < v0.heap.size := HVp.out.lt
  have hv0b : v0.heap.size ≤ v0.heap.size := HKp.out.1
  have hzz : (v0.alloc (.cells #[.int .i64 0, .int .i64 0, .int .i64 0, .int .i64 0, .int .i64 0, .string ⟨#[]⟩, .int .i64 0, .int .i64 0, .int .i64 0, .int .i64 0, .int .i64 0, .string ⟨#[]⟩, .string ⟨#[]⟩, .slice none 0 0, .slice none 0 0, .int .i64 0, .string ⟨#[]⟩, .slice none 0 0, .slice none 0 0, .slice none 0 0, .slice none 0 0] 36)).heap.size = v0.heap.size + 1 := by simp
  generalize hvv : v0.alloc (.cells #[.int .i64 0, .int .i64 0, .int .i64 0, .int .i64 0, .int .i64 0, .string ⟨#[]⟩, .int .i64 0, .int .i64 0, .int .i64 0, .int .i64 0, .int .i64 0, .string ⟨#[]⟩, .string ⟨#[]⟩, .slice none 0 0, .slice none 0 0, .int .i64 0, .string ⟨#[]⟩, .slice none 0 0, .slice none 0 0, .slice none 0 0, .slice none 0 0] 36) = v1 at HV HX HS0 HK hzz  ⊢
  have hsv1 : v0.heap.size ≤ v1.heap.size := by omega
  generalize hb4e : v0.heap.size = b4 at HX hb4a hv0b hzz hsv1  ⊢
  have hb4 : b4 < v1.heap.size := by omega
  have hv0c : v0.heap.size ≤ b4 := by omega
  clear hvv hb4e hzz HVp HKp
  have hC := HCW.out v1 HK.out
  refine hK.out _ _ hC (fun hHeld => ?_)
  clear hK K
  try simp only [Act.put, List.setIfInBounds_toArray, List.set_cons_zero, List.set_cons_succ]
  refine wpAnyH_ready (rs := [19]) (by kernel_rfl) (by simp) ?_
  refine AllReadyH.cons (o := _) rfl (fun K hK => ?_) AllReadyH.nil
  go_simp
  go_at_call 66
  refine (text_any g s0 _ (HS0.out.2) (Nat.le_trans HL0.out (by decide))).mono ?_
  rintro e v2 ⟨rfl, hss1⟩
  rw [show tkText s0 = (t1, s1) from HT1.out] at hss1 ⊢
  simp only at hss1 ⊢
  have hb4o := HX.out.lt
  have hz := hss1.1.size
  have HS1 : Hid (SsTo w g s1 v2) := Lib.hid (HS0.out.trans hss1)
  have HV : Hid (Vr v2 w.heap.size [.int .i64 0, .int .i64 0, .int .i64 0, .int .i64 0, .int .i64 0, .string ⟨#[]⟩, .int .i64 0, .int .i64 0, .int .i64 0, .int .i64 0, .int .i64 0, .string ⟨#[]⟩, .string ⟨#[]⟩, .slice none 0 0, .slice none 0 0, .int .i64 0, .string ⟨#[]⟩, .slice none 0 0, .slice none 0 0, .slice none 0 0, .slice none 0 0]) := Lib.hid (HV.out.grown hss1.1 (by omega))
  have HK : Hid (Keeps (w.heap.size + 1) v0 v2) := Lib.hid (HK.out.trans (keeps_grown hss1.1 (by omega)))
  have hC := HCW.out v2 HK.out
  have hsv2 : v1.heap.size ≤ v2.heap.size := hz
  have HX : Hid (Vr v2 b4 [.int .i64 0, .int .i64 0, .int .i64 0, .int .i64 0, .int .i64 0, .string ⟨#[]⟩, .int .i64 0, .int .i64 0, .int .i64 0, .int .i64 0, .int .i64 0, .string ⟨#[]⟩, .string ⟨#[]⟩, .slice none 0 0, .slice none 0 0, .int .i64 0, .string ⟨#[]⟩, .slice none 0 0, .slice none 0 0, .slice none 0 0, .slice none 0 0]) := Lib.hid (HX.out.grown hss1.1 (by omega))
  clear hb4 
  have hb4 := HX.out.lt
  clear hss1 hz hb4o
  go_wp2_with fail
  refine hK.out _ _ hC (fun hHeld => ?_)
  clear hK K
  try simp only [Act.put, List.setIfInBounds_toArray, List.set_cons_zero, List.set_cons_succ]
  refine wpAnyH_take (i := 20) (oi := _) (v := ?_) rfl (by kernel_rfl) (by kernel_rfl) (by kernel_rfl) (fun _ _ _ h => h) (Or.inl ⟨by rfl, ?_⟩) (by assumption) ?_
  rotate_left
  · intro W hSw; (try dsimp only at hSw); go_simp; try with_reducible rfl
  try simp only [Act.put, List.setIfInBounds_toArray]
  refine wpAnyH_ready (rs := [22]) (by kernel_rfl) (by simp) ?_
  refine AllReadyH.cons (o := _) rfl (fun K hK => ?_) AllReadyH.nil
  rw [if_pos (by rfl)]
  refine wp_store_mid 36 _ _ rfl b4 0 (msC ⟨n0, n1, n2, n3, n4, t1, n5, sg0, Sl.nil, Sl.nil, ⟨0, [], Sl.nil, Sl.nil, Sl.nil⟩, Sl.nil⟩).toArray rfl rfl (HX.out.there rfl) (infoMsn ⟨n0, n1, n2, n3, n4, t1, n5, sg0, Sl.nil, Sl.nil, ⟨0, [], Sl.nil, Sl.nil, Sl.nil⟩, Sl.nil⟩) (msC_one' ⟨n0, n1, n2, n3, n4, t1, n5, sg0, Sl.nil, Sl.nil, ⟨0, [], Sl.nil, Sl.nil, Sl.nil⟩, Sl.nil⟩) ?_
  have HS : Hid (SsTo w g s1 (v2.setCells b4 0 (msC ⟨n0, n1, n2, n3, n4, t1, n5, sg0, Sl.nil, Sl.nil, ⟨0, [], Sl.nil, Sl.nil, Sl.nil⟩, Sl.nil⟩))) := Lib.hid (HS1.out.own (grown_vs (b := b4) (msC ⟨n0, n1, n2, n3, n4, t1, n5, sg0, Sl.nil, Sl.nil, ⟨0, [], Sl.nil, Sl.nil, Sl.nil⟩, Sl.nil⟩)) (by omega) (by omega))
  have HV : Hid (Vr (v2.setCells b4 0 (msC ⟨n0, n1, n2, n3, n4, t1, n5, sg0, Sl.nil, Sl.nil, ⟨0, [], Sl.nil, Sl.nil, Sl.nil⟩, Sl.nil⟩)) w.heap.size [.int .i64 0, .int .i64 0, .int .i64 0, .int .i64 0, .int .i64 0, .string ⟨#[]⟩, .int .i64 0, .int .i64 0, .int .i64 0, .int .i64 0, .int .i64 0, .string ⟨#[]⟩, .string ⟨#[]⟩, .slice none 0 0, .slice none 0 0, .int .i64 0, .string ⟨#[]⟩, .slice none 0 0, .slice none 0 0, .slice none 0 0, .slice none 0 0]) := Lib.hid (HV.out.grown (grown_vs (b := b4) (msC ⟨n0, n1, n2, n3, n4, t1, n5, sg0, Sl.nil, Sl.nil, ⟨0, [], Sl.nil, Sl.nil, Sl.nil⟩, Sl.nil⟩)) (by omega))
  have HX : Hid (Vr (v2.setCells b4 0 (msC ⟨n0, n1, n2, n3, n4, t1, n5, sg0, Sl.nil, Sl.nil, ⟨0, [], Sl.nil, Sl.nil, Sl.nil⟩, Sl.nil⟩)) b4 (msC ⟨n0, n1, n2, n3, n4, t1, n5, sg0, Sl.nil, Sl.nil, ⟨0, [], Sl.nil, Sl.nil, Sl.nil⟩, Sl.nil⟩)) := Lib.hid (HX.out.sets (msC ⟨n0, n1, n2, n3, n4, t1, n5, sg0, Sl.nil, Sl.nil, ⟨0, [], Sl.nil, Sl.nil, Sl.nil⟩, Sl.nil⟩) rfl)
  have hC : (v2.setCells b4 0 (msC ⟨n0, n1, n2, n3, n4, t1, n5, sg0, Sl.nil, Sl.nil, ⟨0, [], Sl.nil, Sl.nil, Sl.nil⟩, Sl.nil⟩)).cell? ⟨b, off, none⟩ = some (.int .i64 n0) ∧ (v2.setCells b4 0 (msC ⟨n0, n1, n2, n3, n4, t1, n5, sg0, Sl.nil, Sl.nil, ⟨0, [], Sl.nil, Sl.nil, Sl.nil⟩, Sl.nil⟩)).cell? ⟨b, off + 1, none⟩ = some (.int .i64 n1) ∧ (v2.setCells b4 0 (msC ⟨n0, n1, n2, n3, n4, t1, n5, sg0, Sl.nil, Sl.nil, ⟨0, [], Sl.nil, Sl.nil, Sl.nil⟩, Sl.nil⟩)).cell? ⟨b, off + 2, none⟩ = some (.int .i64 n2) ∧ (v2.setCells b4 0 (msC ⟨n0, n1, n2, n3, n4, t1, n5, sg0, Sl.nil, Sl.nil, ⟨0, [], Sl.nil, Sl.nil, Sl.nil⟩, Sl.nil⟩)).cell? ⟨b, off + 3, none⟩ = some (.int .i64 n3) ∧ (v2.setCells b4 0 (msC ⟨n0, n1, n2, n3, n4, t1, n5, sg0, Sl.nil, Sl.nil, ⟨0, [], Sl.nil, Sl.nil, Sl.nil⟩, Sl.nil⟩)).cell? ⟨b, off + 4, none⟩ = some (.int .i64 n4) ∧ (v2.setCells b4 0 (msC ⟨n0, n1, n2, n3, n4, t1, n5, sg0, Sl.nil, Sl.nil, ⟨0, [], Sl.nil, Sl.nil, Sl.nil⟩, Sl.nil⟩)).cell? ⟨b, off + 5, none⟩ = some (.int .i64 n5) := HCW.out _ (keeps_row2 HK.out (grown_vs (b := b4) (msC ⟨n0, n1, n2, n3, n4, t1, n5, sg0, Sl.nil, Sl.nil, ⟨0, [], Sl.nil, Sl.nil, Sl.nil⟩, Sl.nil⟩)) (Or.inr (by omega)))
  refine hK.out _ _ hC (fun hHeld => ?_)
  clear hK K
  try simp only [Act.put]
  refine wpAnyH_done (by kernel_rfl) ?_ _
  refine NoPanic.normal ?_
  try simp only [List.toList_toArray]
  generalize v2.setCells b4 0 (msC ⟨n0, n1, n2, n3, n4, t1, n5, sg0, Sl.nil, Sl.nil, ⟨0, [], Sl.nil, Sl.nil, Sl.nil⟩, Sl.nil⟩) = u0 at HS HV HX  ⊢
  clear hC hHeld2 HK
  go_wp2_with fail
  refine (text_any g s1 _ HS.out.2 (Nat.le_trans HL1.out (by decide))).mono ?_
  rintro e u1 ⟨rfl, hss⟩
  rw [show tkText s1 = (t2, s2) from HT2.out] at hss ⊢
  simp only at hss ⊢
  have hsz1 := hss.1.size
  have HV : Hid (Vr u1 w.heap.size [.int .i64 0, .int .i64 0, .int .i64 0, .int .i64 0, .int .i64 0, .string ⟨#[]⟩, .int .i64 0, .int .i64 0, .int .i64 0, .int .i64 0, .int .i64 0, .string ⟨#[]⟩, .string ⟨#[]⟩, .slice none 0 0, .slice none 0 0, .int .i64 0, .string ⟨#[]⟩, .slice none 0 0, .slice none 0 0, .slice none 0 0, .slice none 0 0]) := Lib.hid (HV.out.grown hss.1 (by omega))
  have HX := Lib.hid (HX.out.grown hss.1 (by omega))
  have HS : Hid (SsTo w g s2 u1) := Lib.hid (HS.out.trans hss)
  clear hss
  go_wp2_with fail
  refine (partSg_any g s2 t2 _ HS.out.2 (fun q W hW => signature_x q ⟨t2, false⟩ W hW (Nat.le_trans HTL2.out (by decide)))).mono ?_
  rintro e u2 ⟨x3, he, hx, hst3, hss⟩
  obtain rfl : e = .returned (.agg #[.int .i64 x3.server, .int .i64 x3.kind, .int .i64 x3.view, .int .i64 x3.slot, .string ⟨x3.digest.toArray⟩, .string ⟨x3.sig.toArray⟩]) := he
  rw [show tkPart tkSg t2 s2 = (t3, s3) from HT3.out] at hss hx
  simp only at hss hx
  have HX3 := Lib.hid hx
  clear hx
  have HR3 := Lib.hid (held_new (a := w.heap.size + 1) (b4 := b4) hst3 (by have := HX.out.lt; omega) (Or.inl (by have := HX.out.lt; omega)))
  have hsz2 := hss.1.size
  have HV : Hid (Vr u2 w.heap.size [.int .i64 0, .int .i64 0, .int .i64 0, .int .i64 0, .int .i64 0, .string ⟨#[]⟩, .int .i64 0, .int .i64 0, .int .i64 0, .int .i64 0, .int .i64 0, .string ⟨#[]⟩, .string ⟨#[]⟩, .slice none 0 0, .slice none 0 0, .int .i64 0, .string ⟨#[]⟩, .slice none 0 0, .slice none 0 0, .slice none 0 0, .slice none 0 0]) := Lib.hid (HV.out.grown hss.1 (by omega))
  have HX := Lib.hid (HX.out.grown hss.1 (by omega))
  have HS : Hid (SsTo w g s3 u2) := Lib.hid (HS.out.trans hss)
  clear hss hst3
  go_upto_region 4 with (refine wpList_store_mid rfl 24 _ _ rfl b4 7 (sgC x3).toArray rfl rfl (HX.out.there_at 7 6 (of_decide_eq_true rfl)) (infoSgN x3) (sgC_one x3) ?_)
  try simp only [List.toList_toArray]
  have HS : Hid (SsTo w g s3 (u2.setCells b4 7 (sgC x3))) := Lib.hid (HS.out.own (grown_vs_at (b := b4) (o := 7) (sgC x3)) (by omega) (by omega))
  have HV : Hid (Vr (u2.setCells b4 7 (sgC x3)) w.heap.size [.int .i64 0, .int .i64 0, .int .i64 0, .int .i64 0, .int .i64 0, .string ⟨#[]⟩, .int .i64 0, .int .i64 0, .int .i64 0, .int .i64 0, .int .i64 0, .string ⟨#[]⟩, .string ⟨#[]⟩, .slice none 0 0, .slice none 0 0, .int .i64 0, .string ⟨#[]⟩, .slice none 0 0, .slice none 0 0, .slice none 0 0, .slice none 0 0]) := Lib.hid (HV.out.grown (grown_vs_at (b := b4) (o := 7) (sgC x3)) (by omega))
  have HX : Hid (Vr (u2.setCells b4 7 (sgC x3)) b4 (msC ⟨n0, n1, n2, n3, n4, t1, n5, x3, Sl.nil, Sl.nil, ⟨0, [], Sl.nil, Sl.nil, Sl.nil⟩, Sl.nil⟩)) := Lib.hid ((HX.out.sets_at 7 (sgC x3) (of_decide_eq_true rfl)).eq rfl)
  have HR3 := Lib.hid (HR3.out.row (grown_vs_at (b := b4) (o := 7) (sgC x3)) (Or.inr rfl))
  generalize u2.setCells b4 7 (sgC x3) = u3 at HS HV HX HR3 ⊢
  go_wp2_with fail
  refine (partsSt_any g s3 _ HS.out.2 HL3.out (fun t ht q W hW => readStatus_any q ⟨t, false⟩ W hW (Nat.le_trans ht HL3.out))).mono ?_
  rintro e u4 ⟨x4, rfl, hx, hst4, hss⟩
  rw [show tkParts tkSt s3 = (t4, s4) from HT4.out] at hss hx
  simp only at hss hx
  have HX4 := Lib.hid hx
  clear hx
  have HR4 := Lib.hid (held_new (a := w.heap.size + 1) (b4 := b4) hst4 (by have := HX.out.lt; omega) (Or.inl (by have := HX.out.lt; omega)))
  have hsz4 := hss.1.size
  have HV : Hid (Vr u4 w.heap.size [.int .i64 0, .int .i64 0, .int .i64 0, .int .i64 0, .int .i64 0, .string ⟨#[]⟩, .int .i64 0, .int .i64 0, .int .i64 0, .int .i64 0, .int .i64 0, .string ⟨#[]⟩, .string ⟨#[]⟩, .slice none 0 0, .slice none 0 0, .int .i64 0, .string ⟨#[]⟩, .slice none 0 0, .slice none 0 0, .slice none 0 0, .slice none 0 0]) := Lib.hid (HV.out.grown hss.1 (by omega))
  have HX := Lib.hid (HX.out.grown hss.1 (by omega))
  have HR3 := Lib.hid (HR3.out.row hss.1 (Or.inl (by omega)))
  have HS : Hid (SsTo w g s4 u4) := Lib.hid (HS.out.trans hss)
  clear hss hst4
  go_wp2_with fail
  refine (partsDe_any g s4 _ HS.out.2 HL4.out (fun t ht q W hW => readEntry_any q ⟨t, false⟩ W hW (Nat.le_trans ht HL4.out))).mono ?_
  rintro e u5 ⟨x5, rfl, hx, hst5, hss⟩
  rw [show tkParts tkDe s4 = (t5, s5) from HT5.out] at hss hx
  simp only at hss hx
  have HX5 := Lib.hid hx
  clear hx
  have HR5 := Lib.hid (held_new (a := w.heap.size + 1) (b4 := b4) hst5 (by have := HX.out.lt; omega) (Or.inl (by have := HX.out.lt; omega)))
  have hsz5 := hss.1.size
  have HV : Hid (Vr u5 w.heap.size [.int .i64 0, .int .i64 0, .int .i64 0, .int .i64 0, .int .i64 0, .string ⟨#[]⟩, .int .i64 0, .int .i64 0, .int .i64 0, .int .i64 0, .int .i64 0, .string ⟨#[]⟩, .string ⟨#[]⟩, .slice none 0 0, .slice none 0 0, .int .i64 0, .string ⟨#[]⟩, .slice none 0 0, .slice none 0 0, .slice none 0 0, .slice none 0 0]) := Lib.hid (HV.out.grown hss.1 (by omega))
  have HX := Lib.hid (HX.out.grown hss.1 (by omega))
  have HR3 := Lib.hid (HR3.out.row hss.1 (Or.inl (by omega)))
  have HR4 := Lib.hid (HR4.out.row hss.1 (Or.inl (by omega)))
  have HS : Hid (SsTo w g s5 u5) := Lib.hid (HS.out.trans hss)
  clear hss hst5
  have c13x := HX.out.cells 13 _ rfl
  have f13x := HX.out.free 13 (of_decide_eq_true rfl)
  have c14x := HX.out.cells 14 _ rfl
  have f14x := HX.out.free 14 (of_decide_eq_true rfl)
  have lx := HX.out.lt
  go_upto_region 5 with fail
  have HS : Hid (SsTo w g s5 ((u5.setCell ⟨b4, 13, none⟩ (.slice x4.a x4.l.length x4.c)).setCell ⟨b4, 14, none⟩ (.slice x5.a x5.l.length x5.c))) := Lib.hid ((HS.out.own (grown_set u5 ⟨b4, 13, none⟩ (.slice x4.a x4.l.length x4.c)) (by show w.heap.size ≤ b4; omega) (by show g ≠ b4; omega)).own (grown_set ((u5.setCell ⟨b4, 13, none⟩ (.slice x4.a x4.l.length x4.c))) ⟨b4, 14, none⟩ (.slice x5.a x5.l.length x5.c)) (by show w.heap.size ≤ b4; omega) (by show g ≠ b4; omega))
  have HV : Hid (Vr ((u5.setCell ⟨b4, 13, none⟩ (.slice x4.a x4.l.length x4.c)).setCell ⟨b4, 14, none⟩ (.slice x5.a x5.l.length x5.c)) w.heap.size [.int .i64 0, .int .i64 0, .int .i64 0, .int .i64 0, .int .i64 0, .string ⟨#[]⟩, .int .i64 0, .int .i64 0, .int .i64 0, .int .i64 0, .int .i64 0, .string ⟨#[]⟩, .string ⟨#[]⟩, .slice none 0 0, .slice none 0 0, .int .i64 0, .string ⟨#[]⟩, .slice none 0 0, .slice none 0 0, .slice none 0 0, .slice none 0 0]) := Lib.hid ((HV.out.grown (grown_set u5 ⟨b4, 13, none⟩ (.slice x4.a x4.l.length x4.c)) (by show w.heap.size ≠ b4; omega)).grown (grown_set ((u5.setCell ⟨b4, 13, none⟩ (.slice x4.a x4.l.length x4.c))) ⟨b4, 14, none⟩ (.slice x5.a x5.l.length x5.c)) (by show w.heap.size ≠ b4; omega))
  have HX : Hid (Vr ((u5.setCell ⟨b4, 13, none⟩ (.slice x4.a x4.l.length x4.c)).setCell ⟨b4, 14, none⟩ (.slice x5.a x5.l.length x5.c)) b4 (msC ⟨n0, n1, n2, n3, n4, t1, n5, x3, x4, x5, ⟨0, [], Sl.nil, Sl.nil, Sl.nil⟩, Sl.nil⟩)) := Lib.hid (((HX.out.set 13 (.slice x4.a x4.l.length x4.c)).set 14 (.slice x5.a x5.l.length x5.c)).eq rfl)
  have HR3 := Lib.hid ((HR3.out.row (grown_set u5 ⟨b4, 13, none⟩ (.slice x4.a x4.l.length x4.c)) (Or.inr rfl)).row (grown_set ((u5.setCell ⟨b4, 13, none⟩ (.slice x4.a x4.l.length x4.c))) ⟨b4, 14, none⟩ (.slice x5.a x5.l.length x5.c)) (Or.inr rfl))
  have HR4 := Lib.hid ((HR4.out.row (grown_set u5 ⟨b4, 13, none⟩ (.slice x4.a x4.l.length x4.c)) (Or.inr rfl)).row (grown_set ((u5.setCell ⟨b4, 13, none⟩ (.slice x4.a x4.l.length x4.c))) ⟨b4, 14, none⟩ (.slice x5.a x5.l.length x5.c)) (Or.inr rfl))
  have HR5 := Lib.hid ((HR5.out.row (grown_set u5 ⟨b4, 13, none⟩ (.slice x4.a x4.l.length x4.c)) (Or.inr rfl)).row (grown_set ((u5.setCell ⟨b4, 13, none⟩ (.slice x4.a x4.l.length x4.c))) ⟨b4, 14, none⟩ (.slice x5.a x5.l.length x5.c)) (Or.inr rfl))
  clear lx c13x f13x c14x f14x
  generalize ((u5.setCell ⟨b4, 13, none⟩ (.slice x4.a x4.l.length x4.c)).setCell ⟨b4, 14, none⟩ (.slice x5.a x5.l.length x5.c)) = u6 at HS HV HX HR3 HR4 HR5 ⊢
  go_wp2_with fail
  refine (text_any g s5 _ HS.out.2 (Nat.le_trans HL5.out (by decide))).mono ?_
  rintro e u7 ⟨rfl, hss⟩
  rw [show tkText s5 = (t6, s6) from HT6.out] at hss ⊢
  simp only at hss ⊢
  have hsz7 := hss.1.size
  have HV : Hid (Vr u7 w.heap.size [.int .i64 0, .int .i64 0, .int .i64 0, .int .i64 0, .int .i64 0, .string ⟨#[]⟩, .int .i64 0, .int .i64 0, .int .i64 0, .int .i64 0, .int .i64 0, .string ⟨#[]⟩, .string ⟨#[]⟩, .slice none 0 0, .slice none 0 0, .int .i64 0, .string ⟨#[]⟩, .slice none 0 0, .slice none 0 0, .slice none 0 0, .slice none 0 0]) := Lib.hid (HV.out.grown hss.1 (by omega))
  have HX := Lib.hid (HX.out.grown hss.1 (by omega))
  have HR3 := Lib.hid (HR3.out.row hss.1 (Or.inl (by omega)))
  have HR4 := Lib.hid (HR4.out.row hss.1 (Or.inl (by omega)))
  have HR5 := Lib.hid (HR5.out.row hss.1 (Or.inl (by omega)))
  have HS : Hid (SsTo w g s6 u7) := Lib.hid (HS.out.trans hss)
  clear hss
  go_wp2_with fail
  refine (partSn_any g s6 t6 _ HS.out.2 (fun q W hW => readSnapshot_any q ⟨t6, false⟩ W hW HTL6.out)).mono ?_
  rintro e u8 ⟨x7, he, hx, hst7, hss⟩
  obtain rfl : e = .returned (.agg #[.int .i64 x7.slot, .string ⟨x7.root.toArray⟩, .slice x7.chunks.a x7.chunks.l.length x7.chunks.c, .slice x7.proof.a x7.proof.l.length x7.proof.c, .slice x7.chain.a x7.chain.l.length x7.chain.c]) := he
  rw [show tkPart tkSn t6 s6 = (t7, s7) from HT7.out] at hss hx
  simp only at hss hx
  have HX7 := Lib.hid hx
  clear hx
  have HR7 := Lib.hid (held_new (a := w.heap.size + 1) (b4 := b4) hst7 (by have := HX.out.lt; omega) (Or.inl (by have := HX.out.lt; omega)))
  have hsz8 := hss.1.size
  have HV : Hid (Vr u8 w.heap.size [.int .i64 0, .int .i64 0, .int .i64 0, .int .i64 0, .int .i64 0, .string ⟨#[]⟩, .int .i64 0, .int .i64 0, .int .i64 0, .int .i64 0, .int .i64 0, .string ⟨#[]⟩, .string ⟨#[]⟩, .slice none 0 0, .slice none 0 0, .int .i64 0, .string ⟨#[]⟩, .slice none 0 0, .slice none 0 0, .slice none 0 0, .slice none 0 0]) := Lib.hid (HV.out.grown hss.1 (by omega))
  have HX := Lib.hid (HX.out.grown hss.1 (by omega))
  have HR3 := Lib.hid (HR3.out.row hss.1 (Or.inl (by omega)))
  have HR4 := Lib.hid (HR4.out.row hss.1 (Or.inl (by omega)))
  have HR5 := Lib.hid (HR5.out.row hss.1 (Or.inl (by omega)))
  have HS : Hid (SsTo w g s7 u8) := Lib.hid (HS.out.trans hss)
  clear hss hst7
  go_upto_region 6 with (refine wpList_store_mid rfl 34 _ _ rfl b4 15 (snC x7).toArray rfl rfl (HX.out.there_at 15 5 (of_decide_eq_true rfl)) (infoSnn x7) (snC_one' x7) ?_)
  try simp only [List.toList_toArray]
  have HS : Hid (SsTo w g s7 (u8.setCells b4 15 (snC x7))) := Lib.hid (HS.out.own (grown_vs_at (b := b4) (o := 15) (snC x7)) (by omega) (by omega))
  have HV : Hid (Vr (u8.setCells b4 15 (snC x7)) w.heap.size [.int .i64 0, .int .i64 0, .int .i64 0, .int .i64 0, .int .i64 0, .string ⟨#[]⟩, .int .i64 0, .int .i64 0, .int .i64 0, .int .i64 0, .int .i64 0, .string ⟨#[]⟩, .string ⟨#[]⟩, .slice none 0 0, .slice none 0 0, .int .i64 0, .string ⟨#[]⟩, .slice none 0 0, .slice none 0 0, .slice none 0 0, .slice none 0 0]) := Lib.hid (HV.out.grown (grown_vs_at (b := b4) (o := 15) (snC x7)) (by omega))
  have HX : Hid (Vr (u8.setCells b4 15 (snC x7)) b4 (msC ⟨n0, n1, n2, n3, n4, t1, n5, x3, x4, x5, x7, Sl.nil⟩)) := Lib.hid ((HX.out.sets_at 15 (snC x7) (of_decide_eq_true rfl)).eq rfl)
  have HR3 := Lib.hid (HR3.out.row (grown_vs_at (b := b4) (o := 15) (snC x7)) (Or.inr rfl))
  have HR4 := Lib.hid (HR4.out.row (grown_vs_at (b := b4) (o := 15) (snC x7)) (Or.inr rfl))
  have HR5 := Lib.hid (HR5.out.row (grown_vs_at (b := b4) (o := 15) (snC x7)) (Or.inr rfl))
  have HR7 := Lib.hid (HR7.out.row (grown_vs_at (b := b4) (o := 15) (snC x7)) (Or.inr rfl))
  generalize u8.setCells b4 15 (snC x7) = u9 at HS HV HX HR3 HR4 HR5 HR7 ⊢
  go_wp2_with fail
  refine (texts_any g s7 _ HS.out.2 (Nat.le_trans HL7.out (by decide))).mono ?_
  rintro e u10 ⟨a8, c8, he, hst8, hss⟩
  rw [show tkTexts s7 = (t8, s8) from HT8.out] at hss hst8 he
  simp only at hss hst8 he
  subst he
  have HR8 := Lib.hid (held_new (a := w.heap.size + 1) (b4 := b4) hst8 (by have := HX.out.lt; omega) (Or.inl (by have := HX.out.lt; omega)))
  have hsz10 := hss.1.size
  have HV : Hid (Vr u10 w.heap.size [.int .i64 0, .int .i64 0, .int .i64 0, .int .i64 0, .int .i64 0, .string ⟨#[]⟩, .int .i64 0, .int .i64 0, .int .i64 0, .int .i64 0, .int .i64 0, .string ⟨#[]⟩, .string ⟨#[]⟩, .slice none 0 0, .slice none 0 0, .int .i64 0, .string ⟨#[]⟩, .slice none 0 0, .slice none 0 0, .slice none 0 0, .slice none 0 0]) := Lib.hid (HV.out.grown hss.1 (by omega))
  have HX := Lib.hid (HX.out.grown hss.1 (by omega))
  have HR3 := Lib.hid (HR3.out.row hss.1 (Or.inl (by omega)))
  have HR4 := Lib.hid (HR4.out.row hss.1 (Or.inl (by omega)))
  have HR5 := Lib.hid (HR5.out.row hss.1 (Or.inl (by omega)))
  have HR7 := Lib.hid (HR7.out.row hss.1 (Or.inl (by omega)))
  have HS : Hid (SsTo w g s8 u10) := Lib.hid (HS.out.trans hss)
  clear hss hst8
  have c20x := HX.out.cells 20 _ rfl
  have f20x := HX.out.free 20 (of_decide_eq_true rfl)
  have lx := HX.out.lt
  go_upto_region 7 with fail
  have HS : Hid (SsTo w g s8 (u10.setCell ⟨b4, 20, none⟩ (.slice a8 t8.length c8))) := Lib.hid (HS.out.own (grown_set u10 ⟨b4, 20, none⟩ (.slice a8 t8.length c8)) (by show w.heap.size ≤ b4; omega) (by show g ≠ b4; omega))
  have HV : Hid (Vr (u10.setCell ⟨b4, 20, none⟩ (.slice a8 t8.length c8)) w.heap.size [.int .i64 0, .int .i64 0, .int .i64 0, .int .i64 0, .int .i64 0, .string ⟨#[]⟩, .int .i64 0, .int .i64 0, .int .i64 0, .int .i64 0, .int .i64 0, .string ⟨#[]⟩, .string ⟨#[]⟩, .slice none 0 0, .slice none 0 0, .int .i64 0, .string ⟨#[]⟩, .slice none 0 0, .slice none 0 0, .slice none 0 0, .slice none 0 0]) := Lib.hid (HV.out.grown (grown_set u10 ⟨b4, 20, none⟩ (.slice a8 t8.length c8)) (by show w.heap.size ≠ b4; omega))
  have HX : Hid (Vr (u10.setCell ⟨b4, 20, none⟩ (.slice a8 t8.length c8)) b4 (msC ⟨n0, n1, n2, n3, n4, t1, n5, x3, x4, x5, x7, ⟨a8, c8, t8⟩⟩)) := Lib.hid ((HX.out.set 20 (.slice a8 t8.length c8)).eq rfl)
  have HR3 := Lib.hid (HR3.out.row (grown_set u10 ⟨b4, 20, none⟩ (.slice a8 t8.length c8)) (Or.inr rfl))
  have HR4 := Lib.hid (HR4.out.row (grown_set u10 ⟨b4, 20, none⟩ (.slice a8 t8.length c8)) (Or.inr rfl))
  have HR5 := Lib.hid (HR5.out.row (grown_set u10 ⟨b4, 20, none⟩ (.slice a8 t8.length c8)) (Or.inr rfl))
  have HR7 := Lib.hid (HR7.out.row (grown_set u10 ⟨b4, 20, none⟩ (.slice a8 t8.length c8)) (Or.inr rfl))
  have HR8 := Lib.hid (HR8.out.row (grown_set u10 ⟨b4, 20, none⟩ (.slice a8 t8.length c8)) (Or.inr rfl))
  clear lx c20x f20x
  generalize (u10.setCell ⟨b4, 20, none⟩ (.slice a8 t8.length c8)) = u11 at HS HV HX HR3 HR4 HR5 HR7 HR8 ⊢
  go_wp2_with (first
    | (refine wpList_load_mid rfl 36 _ rfl b4 0 rfl (msC ⟨n0, n1, n2, n3, n4, t1, n5, x3, x4, x5, x7, ⟨a8, c8, t8⟩⟩) _ HX.out.range Tryz.underlying36 rfl (infoMsn ⟨n0, n1, n2, n3, n4, t1, n5, x3, x4, x5, x7, ⟨a8, c8, t8⟩⟩) ?_)
    | (refine wpList_store_mid rfl 36 _ _ rfl w.heap.size 0 (msC ⟨n0, n1, n2, n3, n4, t1, n5, x3, x4, x5, x7, ⟨a8, c8, t8⟩⟩).toArray rfl rfl (HV.out.there rfl) (infoMsn ⟨n0, n1, n2, n3, n4, t1, n5, x3, x4, x5, x7, ⟨a8, c8, t8⟩⟩) (msC_one' ⟨n0, n1, n2, n3, n4, t1, n5, x3, x4, x5, x7, ⟨a8, c8, t8⟩⟩) ?_))
  have HSe := Lib.hid (HS.out.own (grown_vs (b := w.heap.size) (msC ⟨n0, n1, n2, n3, n4, t1, n5, x3, x4, x5, x7, ⟨a8, c8, t8⟩⟩)) (Nat.le_refl _) (by omega))
  have HVe := Lib.hid (HV.out.sets (msC ⟨n0, n1, n2, n3, n4, t1, n5, x3, x4, x5, x7, ⟨a8, c8, t8⟩⟩) rfl)
  refine bodyPost_ret (v := .agg (msC ⟨n0, n1, n2, n3, n4, t1, n5, x3, x4, x5, x7, ⟨a8, c8, t8⟩⟩).toArray) ?_ rfl (ret_x (x := ⟨n0, n1, n2, n3, n4, t1, n5, x3, x4, x5, x7, ⟨a8, c8, t8⟩⟩) HSpec.out rfl ?_ ?_ HSe.out)
  · exact results_mid Tryz.results35 _ _ w.heap.size (msC ⟨n0, n1, n2, n3, n4, t1, n5, x3, x4, x5, x7, ⟨a8, c8, t8⟩⟩) _ rfl HVe.out.range Tryz.underlying36 rfl (infoMsn ⟨n0, n1, n2, n3, n4, t1, n5, x3, x4, x5, x7, ⟨a8, c8, t8⟩⟩)
  · show Ms.mk n0 n1 n2 n3 n4 t1 n5 x3 (Sl.of (x4.l.map St.er)) (Sl.of (x5.l.map De.er)) x7.er (Sl.er ⟨a8, c8, t8⟩) = _
    have h3 : x3 = t3 := HX3.out
    rw [h3, HX4.out, HX5.out, HX7.out]; rfl
  · exact fun W hW => ⟨⟨HN64.out n0 (by simp), HN64.out n1 (by simp), HN64.out n2 (by simp), HN64.out n3 (by simp), HN64.out n4 (by simp), HN64.out n5 (by simp)⟩, ((HR3.out.row (grown_vs (b := w.heap.size) _) (Or.inl (by omega))).stays.low (by omega)) W hW, ⟨(((HR4.out.row (grown_vs (b := w.heap.size) _) (Or.inl (by omega))).stays.low (by omega)) W hW).1, (((HR4.out.row (grown_vs (b := w.heap.size) _) (Or.inl (by omega))).stays.low (by omega)) W hW).2⟩, ⟨(((HR5.out.row (grown_vs (b := w.heap.size) _) (Or.inl (by omega))).stays.low (by omega)) W hW).1, (((HR5.out.row (grown_vs (b := w.heap.size) _) (Or.inl (by omega))).stays.low (by omega)) W hW).2⟩, ((HR7.out.row (grown_vs (b := w.heap.size) _) (Or.inl (by omega))).stays.low (by omega)) W hW, by have h9 := ((HR8.out.row (grown_vs (b := w.heap.size) _) (Or.inl (by omega))).stays.low (by omega)) W hW; show Rd W 1 a8 t8.length (t8.flatMap strV); rw [strV_strC]; exact h9⟩
end Go.Proofs.YtoehakekjlebdaaGreatDoor
