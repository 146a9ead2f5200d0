/- ref51.Decode. -/
import Derived.Test.YtikpcebhcnjkhaaGreatDoorDPl
import Derived.Test.YtikpcebhcnjkhaaGreatDoorDPc
namespace Go.Proofs.YtikpcebhcnjkhaaGreatDoor
open Go.RowKit
theorem wpAnyH_strongA {P : Program} {ops : Array Oper} {Q : Exit → Act → World → Prop} {md : Region.Mode} {S S' : World → Prop} (h : ∀ w, S' w → S w) :
    ∀ (fuel : Nat) (listed : Array Bool) (a : Act) (w : World), wpAnyH P md ops Q S' fuel listed a w → wpAnyH P md ops Q S fuel listed a w
 | 0, _, _, _, k => k
 | fuel + 1, _, _, _, k => ⟨k.1, fun i hi => wpOp_mono (fun a' w' h' => ⟨h w' h'.1, wpAnyH_strongA h fuel _ a' w' h'.2⟩) (k.2 i hi)⟩
theorem memTo_and (s n : Nat) (hn : n ≤ 16) : ∀ m, n ≤ m → memTo (s &&& (2 ^ n - 1)) m = memTo s n := by
 have hb : ∀ i, (s &&& (2 ^ n - 1)).testBit i = (s.testBit i && decide (i < n)) := fun i => by rw [Nat.testBit_and, Nat.testBit_two_pow_sub_one]
 have h0 : ∀ m, m ≤ n → memTo (s &&& (2 ^ n - 1)) m = memTo s m := by
  intro m
  induction m with
  | zero => intro _; rfl
  | succ m ih =>
   intro hm
   rw [memTo_succ, memTo_succ, ih (by omega), hb, decide_eq_true (by omega : m < n), Bool.and_true]
 intro m hm
 induction m with
 | zero =>
  obtain rfl : n = 0 := by omega
  rfl
 | succ m ih =>
  by_cases h1 : n = m + 1
  · subst h1; exact h0 _ (Nat.le_refl _)
  · rw [memTo_succ, ih (by omega), hb, decide_eq_false (by omega : ¬ m < n), Bool.and_false]
    simp
set_option maxRecDepth 100000 in
set_option maxHeartbeats 2000000 in
theorem every_any (n : Nat) (w : World) (hn : n ≤ 5) : Calls Tryz.prog 38 #[.int .i64 (n : Int)] w (Same (.int .u16 ((2 ^ n - 1 : Nat) : Int)) w) := by
 have h6 : n = 0 ∨ n = 1 ∨ n = 2 ∨ n = 3 ∨ n = 4 ∨ n = 5 := by omega
 rcases h6 with rfl | rfl | rfl | rfl | rfl | rfl
 all_goals
  go_enter Tryz.func38, Tryz.ntmps38
  go_wp2_with fail
  go_ret
  exact ⟨ret_int (by first | rfl | kernel_rfl), rfl⟩
structure Seven (w : World) (bb bo : Nat) (b0 b1' b2 b3 b4 b5 b6 : Int) : Prop where
 b0 : ∀ W, Below w.heap.size w W → W.cell? ⟨bb, bo, none⟩ = some (.int .u8 b0)
 b1 : ∀ W, Below w.heap.size w W → W.cell? ⟨bb, bo + 1, none⟩ = some (.int .u8 b1')
 b2 : ∀ W, Below w.heap.size w W → W.cell? ⟨bb, bo + 2, none⟩ = some (.int .u8 b2)
 b3 : ∀ W, Below w.heap.size w W → W.cell? ⟨bb, bo + 3, none⟩ = some (.int .u8 b3)
 b4 : ∀ W, Below w.heap.size w W → W.cell? ⟨bb, bo + 4, none⟩ = some (.int .u8 b4)
 b5 : ∀ W, Below w.heap.size w W → W.cell? ⟨bb, bo + 5, none⟩ = some (.int .u8 b5)
 b6 : ∀ W, Below w.heap.size w W → W.cell? ⟨bb, bo + 6, none⟩ = some (.int .u8 b6)
set_option maxRecDepth 100000 in
set_option maxHeartbeats 20000000 in
theorem decR_full (A B D E F : Option Addr) (u : Int) (n k c n2 c2 n3 c3 n4 c4 c5 : Nat) (s bb bo cb : Nat) (bs : List Nat) (w : World) (hb1 : bb < w.heap.size) (hby : ∀ j v, (BY bs)[j]? = some v → w.cell? ⟨bb, bo + j, none⟩ = some v) (h7 : bs.length = 7) (h256 : ∀ x ∈ bs, x < 256) (hs : s < 65536) (hn : 1 ≤ n) (hn5 : n ≤ 5) (hk : k ≤ 2) (hm : (memTo s n).isEmpty = false) :
    Calls Tryz.prog 16 #[.agg #[.slice A n c, .slice B n2 c2, .int .u16 u, .slice D n3 c3, .slice E n4 c4, .slice F k c5], .int .u16 (s : Int), .slice (some ⟨bb, bo, none⟩) 7 cb] w (RetLie (decLi n k s bs) 0 w) := by
 obtain ⟨q0, hq0⟩ : ∃ q0, q0 = bs.getD 0 0 % 5 := ⟨_, rfl⟩
 have hq05 : q0 < 5 := by rw [hq0]; exact Nat.mod_lt _ (by decide)
 obtain ⟨kd, hkd⟩ : ∃ kd : Int, kd = decKd bs := ⟨_, rfl⟩
 have hkd2 : kd = (q0 : Int) + 1 := by rw [hkd, decKd, hq0]
 obtain ⟨ml, hml⟩ : ∃ ml, ml = (memTo s n).length := ⟨_, rfl⟩
 have hml0 : 0 < ml := by
  rw [hml]
  cases hh : memTo s n with
  | nil => rw [hh] at hm; simp at hm
  | cons x r => simp
 have hml5 : ml ≤ 5 := by rw [hml]; exact Nat.le_trans (memTo_len s n) hn5
 obtain ⟨q1, hq1⟩ : ∃ q1, q1 = bs.getD 1 0 % ml := ⟨_, rfl⟩
 have hq1l : q1 < ml := by rw [hq1]; exact Nat.mod_lt _ hml0
 obtain ⟨lv, hlv⟩ : ∃ lv : Int, lv = (((memTo s n).getD q1 0 : Nat) : Int) := ⟨_, rfl⟩
 obtain ⟨b0, hb0⟩ : ∃ b, b = bI bs 0 := ⟨_, rfl⟩
 have r0 := bI_range bs 0 h256
 rw [← hb0] at r0
 obtain ⟨b1, hb1'⟩ : ∃ b, b = bI bs 1 := ⟨_, rfl⟩
 have r1 := bI_range bs 1 h256
 rw [← hb1'] at r1
 obtain ⟨b2, hb2⟩ : ∃ b, b = bI bs 2 := ⟨_, rfl⟩
 have r2 := bI_range bs 2 h256
 rw [← hb2] at r2
 obtain ⟨b3, hb3⟩ : ∃ b, b = bI bs 3 := ⟨_, rfl⟩
 have r3 := bI_range bs 3 h256
 rw [← hb3] at r3
 obtain ⟨b4, hb4⟩ : ∃ b, b = bI bs 4 := ⟨_, rfl⟩
 have r4 := bI_range bs 4 h256
 rw [← hb4] at r4
 obtain ⟨b5, hb5⟩ : ∃ b, b = bI bs 5 := ⟨_, rfl⟩
 have r5 := bI_range bs 5 h256
 rw [← hb5] at r5
 obtain ⟨b6, hb6⟩ : ∃ b, b = bI bs 6 := ⟨_, rfl⟩
 have r6 := bI_range bs 6 h256
 rw [← hb6] at r6
 obtain ⟨rc, hrc⟩ : ∃ rc, rc = recv n k kd := ⟨_, rfl⟩
 have hrc0 : 0 < rc ∧ rc ≤ 1000 := by
  have h1 := recv_le n k kd
  have h2 : (n : Int) ≤ recv n k kd := by unfold recv; split <;> omega
  omega
 obtain ⟨m2, hm2⟩ : ∃ r, r = b2 % rc := ⟨_, rfl⟩
 obtain ⟨m3, hm3⟩ : ∃ r, r = b3 % 8 + 1 := ⟨_, rfl⟩
 obtain ⟨m4, hm4⟩ : ∃ r, r = b4 % 4 := ⟨_, rfl⟩
 obtain ⟨m5, hm5⟩ : ∃ r, r = b5 % 8 := ⟨_, rfl⟩
 have HE3 : Hid (IntKind.i64.wrap (1 + IntKind.i64.wrap (b3.tmod 8)) = m3) := hD (by rw [Int.tmod_eq_emod_of_nonneg r3.1, IntKind.wrap_i64, IntKind.wrap_i64]; omega)
 have HE4 : Hid (IntKind.i64.wrap (b4.tmod 4) = m4) := hD (by rw [Int.tmod_eq_emod_of_nonneg r4.1, IntKind.wrap_i64]; omega)
 have HE5 : Hid (IntKind.i64.wrap (b5.tmod 8) = m5) := hD (by rw [Int.tmod_eq_emod_of_nonneg r5.1, IntKind.wrap_i64]; omega)
 have HE6 : Hid (IntKind.i64.wrap b6 = b6) := hD (by rw [IntKind.wrap_i64]; omega)
 have hT2 : (IntKind.i64.wrap b2).tmod rc = m2 := by rw [IntKind.wrap_i64, hm2, Int.tmod_eq_emod_of_nonneg (by omega)]; congr 1; omega
 have hrcne : rc ≠ 0 := by omega
 have HRes : Hid (decLi n k s bs = ⟨kd, lv, m2, m3, m4, m5, b6⟩) := hD (by unfold decLi; rw [← hml, ← hq1, ← hlv, ← hkd, ← hb2, ← hb3, ← hb4, ← hb5, ← hb6, ← hrc, ← hm2, ← hm3, ← hm4, ← hm5])
 have hq1i : b1 % (ml : Int) = (q1 : Int) := by rw [hb1']; unfold bI; rw [hq1]; simp
 have HE0 : Hid (b0.tmod 5 = (q0 : Int)) := hD (by rw [Int.tmod_eq_emod_of_nonneg r0.1, hb0]; unfold bI; rw [hq0]; simp)
 have hT1 : (IntKind.i64.wrap b1).tmod (ml : Int) = (q1 : Int) := by rw [IntKind.wrap_i64, ← hq1i, Int.tmod_eq_emod_of_nonneg (by omega)]; congr 1; omega
 have hmne : ml ≠ 0 := by omega
 have hq0i : b0 % 5 = (q0 : Int) := by rw [hb0]; unfold bI; rw [hq0]; simp
 have HBy : Hid (Seven w bb bo b0 b1 b2 b3 b4 b5 b6) := hD (by
  have h9 : ∀ i, i < 7 → ∀ W, Below w.heap.size w W → W.cell? ⟨bb, bo + i, none⟩ = some (.int .u8 (bI bs i)) := fun i hi W hB => (hB.cell (p := ⟨bb, bo + i, none⟩) hb1).trans (hby i _ (by_at bs i (by omega)))
  exact ⟨hb0 ▸ h9 0 (by decide), hb1' ▸ h9 1 (by decide), hb2 ▸ h9 2 (by decide), hb3 ▸ h9 3 (by decide), hb4 ▸ h9 4 (by decide), hb5 ▸ h9 5 (by decide), hb6 ▸ h9 6 (by decide)⟩)
 have HRc : Hid (∀ W, Calls Tryz.prog 31 #[.agg #[.slice A n c, .slice B n2 c2, .int .u16 u, .slice D n3 c3, .slice E n4 c4, .slice F k c5], .int .i64 kd] W (RetInt rc W)) := hD (fun W => hrc ▸ recvR_any A B D E F u n c n2 c2 n3 c3 n4 c4 k c5 kd W (by omega))
 have HL0 : Hid (Below w.heap.size w ((w.alloc (.cells #[.slice A n c, .slice B n2 c2, .int .u16 u, .slice D n3 c3, .slice E n4 c4, .slice F k c5] 36)).alloc (.cells #[.int .i64 0, .int .i64 0, .int .i64 0, .int .i64 0, .int .i64 0, .int .i64 0, .int .i64 0] 28))) := hD (bon (below_new w _) (below_new _ _))
 have HD0 : Hid (Vz ((w.alloc (.cells #[.slice A n c, .slice B n2 c2, .int .u16 u, .slice D n3 c3, .slice E n4 c4, .slice F k c5] 36)).alloc (.cells #[.int .i64 0, .int .i64 0, .int .i64 0, .int .i64 0, .int .i64 0, .int .i64 0, .int .i64 0] 28)) w.heap.size [.slice A n c, .slice B n2 c2, .int .u16 u, .slice D n3 c3, .slice E n4 c4, .slice F k c5]) := hD ((Vz.new w [.slice A n c, .slice B n2 c2, .int .u16 u, .slice D n3 c3, .slice E n4 c4, .slice F k c5] 36).below (below_new _ _))
 have HR0 : Hid (Vz ((w.alloc (.cells #[.slice A n c, .slice B n2 c2, .int .u16 u, .slice D n3 c3, .slice E n4 c4, .slice F k c5] 36)).alloc (.cells #[.int .i64 0, .int .i64 0, .int .i64 0, .int .i64 0, .int .i64 0, .int .i64 0, .int .i64 0] 28)) (w.heap.size + 1) [.int .i64 0, .int .i64 0, .int .i64 0, .int .i64 0, .int .i64 0, .int .i64 0, .int .i64 0]) := hD (by
  have h9 := Vz.new (w.alloc (.cells #[.slice A n c, .slice B n2 c2, .int .u16 u, .slice D n3 c3, .slice E n4 c4, .slice F k c5] 36)) [.int .i64 0, .int .i64 0, .int .i64 0, .int .i64 0, .int .i64 0, .int .i64 0, .int .i64 0] 28
  rw [World.size_alloc] at h9
  exact h9)
 obtain ⟨w2, hw2⟩ : ∃ w2, w2 = ((w.alloc (.cells #[.slice A n c, .slice B n2 c2, .int .u16 u, .slice D n3 c3, .slice E n4 c4, .slice F k c5] 36)).alloc (.cells #[.int .i64 0, .int .i64 0, .int .i64 0, .int .i64 0, .int .i64 0, .int .i64 0, .int .i64 0] 28)) := ⟨_, rfl⟩
 rw [← hw2] at HL0 HD0 HR0
 have HW2 : Hid (((w.alloc (.cells #[.slice A n c, .slice B n2 c2, .int .u16 u, .slice D n3 c3, .slice E n4 c4, .slice F k c5] 36)).alloc (.cells #[.int .i64 0, .int .i64 0, .int .i64 0, .int .i64 0, .int .i64 0, .int .i64 0, .int .i64 0] 28)) = w2) := hD hw2.symm
 have HEv := hD (fun W => every_any n W hn5)
 obtain ⟨al, hal⟩ : ∃ al, al = 2 ^ n - 1 := ⟨_, rfl⟩
 have hal16 : al < 65536 := by rw [hal]; have : 2 ^ n ≤ 2 ^ 5 := Nat.pow_le_pow_right (by decide) hn5; omega
 have hand : bits .and .u16 (s : Int) (al : Int) = ((s &&& al : Nat) : Int) := u16_and_nat s al hs hal16
 obtain ⟨sa, hsa⟩ : ∃ sa, sa = s &&& al := ⟨_, rfl⟩
 have hsa16 : sa < 65536 := by rw [hsa]; exact Nat.lt_of_le_of_lt Nat.and_le_right hal16
 have HM := hD (fun W => memRef_any sa W hsa16)
 have HMs : Hid (memTo sa 16 = memTo s n) := hD (by rw [hsa, hal]; exact memTo_and s n (by omega) 16 (by omega))
 rw [← hal] at HEv
 rw [← hsa] at hand
 have HMl := hD hml
 have HLv := hD hlv
 have hq50 : (0 : Int) ≤ (q0 : Int) := by omega
 have hq51 : (q0 : Int) < 5 := by omega
 have hq60 : (0 : Int) ≤ (q1 : Int) := by omega
 have hq61 : (q1 : Int) < (ml : Int) := by omega
 have HKd := hD hkd2
 clear hw2 hby hm2 hm3 hm4 hm5 hb0 hb1' hb2 hb3 hb4 hb5 hb6 hrc hq0 hq1 hkd hkd2 hml hlv hm hal hsa hs hal16
 go_enter Tryz.func16, Tryz.ntmps16
 go_upto_region 1 with fail
 refine world_eqA HW2.out ?_
 have x0 := HD0.out.cells 0 _ rfl
 have lx := HD0.out.lt
 go_wp2_with fail
 refine (HEv.out _).mono ?_
 rintro e w3 ⟨rfl, rfl⟩
 go_wp2_with fail
 refine (HM.out _).mono ?_
 rintro e w5 ⟨A5, c8, rfl, hrd, hb9⟩
 rw [HMs.out] at hrd
 rw [HMs.out, ← HMl.out]
 have HL := hD (bon HL0.out hb9)
 have HD := hD (HD0.out.below hb9)
 have HR := hD (HR0.out.below hb9)
 obtain ⟨lb, lo, rfl, hq9⟩ : ∃ lb lo, A5 = some ⟨lb, lo, none⟩ ∧ w5.cell? ⟨lb, lo + q1, none⟩ = some (.int .i64 lv) := by
  have h1 : q1 < (memTo s n).length := by rw [← HMl.out]; exact hq1l
  obtain ⟨b, o, e1, _, hc⟩ := hrd.cells (by rw [natC_len]; omega)
  refine ⟨b, o, e1, hc q1 _ ?_⟩
  rw [HLv.out]
  simp [natC, h1]
 have HQ := hD hq9
 clear hq9 hrd hb9 x0 lx
 go_upto_region 6 with fail
 refine wp_region_noPanic ?_
 have HL : Hid (Below w.heap.size w w5.drew) := hD (bon HL.out (Below.refl _ _).drew)
 have HD : Hid (Vz w5.drew w.heap.size [.slice A n c, .slice B n2 c2, .int .u16 u, .slice D n3 c3, .slice E n4 c4, .slice F k c5]) := hD (HD.out.below (Below.refl _ _).drew)
 have HR : Hid (Vz w5.drew (w.heap.size + 1) [.int .i64 0, .int .i64 0, .int .i64 0, .int .i64 0, .int .i64 0, .int .i64 0, .int .i64 0]) := hD (HR.out.below (Below.refl _ _).drew)
 have HQ : Hid (World.cell? w5.drew ⟨lb, lo + q1, none⟩ = some (.int .i64 lv)) := hD (((Below.refl _ _).drew.cell (p := ⟨lb, lo + q1, none⟩) (Lib.lt_of_cell HQ.out)).trans HQ.out)
 generalize hv : w5.drew = v0 at HL HD HR HQ
 have hS0 : World.cell? v0 ⟨bb, bo, none⟩ = some (.int .u8 b0) ∧ World.cell? v0 ⟨bb, bo + 1, none⟩ = some (.int .u8 b1) ∧ World.cell? v0 ⟨bb, bo + 3, none⟩ = some (.int .u8 b3) ∧ World.cell? v0 ⟨bb, bo + 4, none⟩ = some (.int .u8 b4) ∧ World.cell? v0 ⟨bb, bo + 5, none⟩ = some (.int .u8 b5) ∧ World.cell? v0 ⟨bb, bo + 6, none⟩ = some (.int .u8 b6) ∧ World.cell? v0 ⟨lb, lo + q1, none⟩ = some (.int .i64 lv) := ⟨HBy.out.b0 _ HL.out, HBy.out.b1 _ HL.out, HBy.out.b3 _ HL.out, HBy.out.b4 _ HL.out, HBy.out.b5 _ HL.out, HBy.out.b6 _ HL.out, HQ.out⟩
 refine wp_region_held_drew (S := fun W => World.cell? W ⟨bb, bo, none⟩ = some (.int .u8 b0) ∧ World.cell? W ⟨bb, bo + 1, none⟩ = some (.int .u8 b1) ∧ World.cell? W ⟨bb, bo + 3, none⟩ = some (.int .u8 b3) ∧ World.cell? W ⟨bb, bo + 4, none⟩ = some (.int .u8 b4) ∧ World.cell? W ⟨bb, bo + 5, none⟩ = some (.int .u8 b5) ∧ World.cell? W ⟨bb, bo + 6, none⟩ = some (.int .u8 b6) ∧ World.cell? W ⟨lb, lo + q1, none⟩ = some (.int .i64 lv)) (by kernel_rfl) (by rw [hv]; exact hS0) (fun hHeld => ?_)
 rw [hv] at hHeld ⊢
 clear hv
 refine takes [1,2,3,4,7,8,9,10,11,12,13,14,15,16,17,18,19,20,21,22,23,24,25,26,27,28,29,30,31,32,33,34,35,36] ?_
 simp only [HE0.out, HE3.out, HE4.out, HE5.out, HE6.out]
 refine wpAnyH_ready (rs := [0, 38]) (by kernel_rfl) (by simp) ?_
 refine AllReadyH.cons (o := _) rfl (fun K hK => ?_) (AllReadyH.cons (o := _) rfl (fun K hK => ?_) AllReadyH.nil)
 · go_simp
   go_at_call 28
   refine (kindsR_any v0).mono ?_
   rintro e v1 ⟨A7, c7, rfl, hr7, hs⟩
   have HL := hD (bon HL.out hs)
   have HD := hD (HD.out.below hs)
   have HR := hD (HR.out.below hs)
   have HQ := hD ((hs.cell (p := ⟨lb, lo + q1, none⟩) (Lib.lt_of_cell HQ.out)).trans HQ.out)
   obtain ⟨kb, ko, rfl, _, hkc⟩ := hr7.cells (by simp [intC])
   have HK : Hid (World.cell? v1 ⟨kb, ko + q0, none⟩ = some (.int .i64 kd)) := hD (by rw [HKd.out]; exact hkc q0 _ (k5at q0 hq05))
   clear hr7 hkc hs
   go_wp2_with fail
   have hS1 : World.cell? v1 ⟨bb, bo, none⟩ = some (.int .u8 b0) ∧ World.cell? v1 ⟨bb, bo + 1, none⟩ = some (.int .u8 b1) ∧ World.cell? v1 ⟨bb, bo + 3, none⟩ = some (.int .u8 b3) ∧ World.cell? v1 ⟨bb, bo + 4, none⟩ = some (.int .u8 b4) ∧ World.cell? v1 ⟨bb, bo + 5, none⟩ = some (.int .u8 b5) ∧ World.cell? v1 ⟨bb, bo + 6, none⟩ = some (.int .u8 b6) ∧ World.cell? v1 ⟨lb, lo + q1, none⟩ = some (.int .i64 lv) := ⟨HBy.out.b0 _ HL.out, HBy.out.b1 _ HL.out, HBy.out.b3 _ HL.out, HBy.out.b4 _ HL.out, HBy.out.b5 _ HL.out, HBy.out.b6 _ HL.out, HQ.out⟩
   refine hK.out _ _ hS1 (fun hHeld => ?_)
   clear hK K
   try simp only [Act.put,qk1,qk2,qk3,qk4,qk5,qk6]
   refine wpAnyH_strongA (S' := fun W => (World.cell? W ⟨bb, bo, none⟩ = some (.int .u8 b0) ∧ World.cell? W ⟨bb, bo + 1, none⟩ = some (.int .u8 b1) ∧ World.cell? W ⟨bb, bo + 3, none⟩ = some (.int .u8 b3) ∧ World.cell? W ⟨bb, bo + 4, none⟩ = some (.int .u8 b4) ∧ World.cell? W ⟨bb, bo + 5, none⟩ = some (.int .u8 b5) ∧ World.cell? W ⟨bb, bo + 6, none⟩ = some (.int .u8 b6) ∧ World.cell? W ⟨lb, lo + q1, none⟩ = some (.int .i64 lv)) ∧ World.cell? W ⟨kb, ko + q0, none⟩ = some (.int .i64 kd)) (fun _ h => h.1) _ _ _ _ ?_
   have hT1 : (World.cell? v1 ⟨bb, bo, none⟩ = some (.int .u8 b0) ∧ World.cell? v1 ⟨bb, bo + 1, none⟩ = some (.int .u8 b1) ∧ World.cell? v1 ⟨bb, bo + 3, none⟩ = some (.int .u8 b3) ∧ World.cell? v1 ⟨bb, bo + 4, none⟩ = some (.int .u8 b4) ∧ World.cell? v1 ⟨bb, bo + 5, none⟩ = some (.int .u8 b5) ∧ World.cell? v1 ⟨bb, bo + 6, none⟩ = some (.int .u8 b6) ∧ World.cell? v1 ⟨lb, lo + q1, none⟩ = some (.int .i64 lv)) ∧ World.cell? v1 ⟨kb, ko + q0, none⟩ = some (.int .i64 kd) := ⟨⟨HBy.out.b0 _ HL.out, HBy.out.b1 _ HL.out, HBy.out.b3 _ HL.out, HBy.out.b4 _ HL.out, HBy.out.b5 _ HL.out, HBy.out.b6 _ HL.out, HQ.out⟩, HK.out⟩
   refine takes [5,6,37] ?_
   refine tkr 38 rfl (fun K hK => ?_)
   go_simp
   have HG : Hid (Vz (World.alloc v1 (.cells #[.int .i64 0, .int .i64 0, .int .i64 0, .int .i64 0, .int .i64 0, .int .i64 0, .int .i64 0] 28)) (World.heap v1).size [.int .i64 0, .int .i64 0, .int .i64 0, .int .i64 0, .int .i64 0, .int .i64 0, .int .i64 0]) := hD (Vz.new v1 [.int .i64 0, .int .i64 0, .int .i64 0, .int .i64 0, .int .i64 0, .int .i64 0, .int .i64 0] 28)
   have hs := below_new v1 (.cells #[.int .i64 0, .int .i64 0, .int .i64 0, .int .i64 0, .int .i64 0, .int .i64 0, .int .i64 0] 28)
   have HGw : Hid (w.heap.size + 1 < (World.heap v1).size) := hD HR.out.lt
   have hlg : lb ≠ (World.heap v1).size := Nat.ne_of_lt (Lib.lt_of_cell HQ.out)
   have hkg : kb ≠ (World.heap v1).size := Nat.ne_of_lt (Lib.lt_of_cell HK.out)
   have HL := hD (bon HL.out hs)
   have HD := hD (HD.out.below hs)
   have HR := hD (HR.out.below hs)
   have HQ := hD ((hs.cell (p := ⟨lb, lo + q1, none⟩) (Lib.lt_of_cell HQ.out)).trans HQ.out)
   have HK := hD ((hs.cell (p := ⟨kb, ko + q0, none⟩) (Lib.lt_of_cell HK.out)).trans HK.out)
   clear hs
   generalize World.alloc v1 (.cells #[.int .i64 0, .int .i64 0, .int .i64 0, .int .i64 0, .int .i64 0, .int .i64 0, .int .i64 0] 28) = v2 at HG HL HD HR HQ HK ⊢
   generalize (World.heap v1).size = g at HG HGw hlg hkg ⊢
   have hT2 : (World.cell? v2 ⟨bb, bo, none⟩ = some (.int .u8 b0) ∧ World.cell? v2 ⟨bb, bo + 1, none⟩ = some (.int .u8 b1) ∧ World.cell? v2 ⟨bb, bo + 3, none⟩ = some (.int .u8 b3) ∧ World.cell? v2 ⟨bb, bo + 4, none⟩ = some (.int .u8 b4) ∧ World.cell? v2 ⟨bb, bo + 5, none⟩ = some (.int .u8 b5) ∧ World.cell? v2 ⟨bb, bo + 6, none⟩ = some (.int .u8 b6) ∧ World.cell? v2 ⟨lb, lo + q1, none⟩ = some (.int .i64 lv)) ∧ World.cell? v2 ⟨kb, ko + q0, none⟩ = some (.int .i64 kd) := ⟨⟨HBy.out.b0 _ HL.out, HBy.out.b1 _ HL.out, HBy.out.b3 _ HL.out, HBy.out.b4 _ HL.out, HBy.out.b5 _ HL.out, HBy.out.b6 _ HL.out, HQ.out⟩, HK.out⟩
   refine hK.out _ _ hT2 (fun hHeld => ?_)
   clear hK K
   try simp only [Act.put,qk1,qk2,qk3,qk4,qk5,qk6]
   have hge : w.heap.size ≤ g := by have := HGw.out; omega
   have hneD : some g ≠ some w.heap.size := by have := HGw.out; simp; omega
   have hneR : some g ≠ some (w.heap.size + 1) := by have := HGw.out; simp; omega
   have z0 := HG.out.cells 0 _ rfl
   have f0 := HG.out.free 0 (by simp)
   have z1 := HG.out.cells 1 _ rfl
   have f1 := HG.out.free 1 (by simp)
   have z2 := HG.out.cells 2 _ rfl
   have f2 := HG.out.free 2 (by simp)
   have z3 := HG.out.cells 3 _ rfl
   have f3 := HG.out.free 3 (by simp)
   have z4 := HG.out.cells 4 _ rfl
   have f4 := HG.out.free 4 (by simp)
   have z5 := HG.out.cells 5 _ rfl
   have f5 := HG.out.free 5 (by simp)
   have z6 := HG.out.cells 6 _ rfl
   have f6 := HG.out.free 6 (by simp)
   have lg := HG.out.lt
   refine tkr 39 rfl (fun K hK => ?_)
   go_simp
   have hQ := far7 HQ.out hlg (.int .i64 kd) (.int .i64 lv) (.int .i64 0) (.int .i64 m3) (.int .i64 m4) (.int .i64 m5) (.int .i64 b6)
   have HQ := hD hQ
   have hKc := far7 HK.out hkg (.int .i64 kd) (.int .i64 lv) (.int .i64 0) (.int .i64 m3) (.int .i64 m4) (.int .i64 m5) (.int .i64 b6)
   have HK := hD hKc
   clear hQ hKc
   have HL := hD ((((((((HL.out.setCell (p := ⟨g, 0, none⟩) hge (.int .i64 kd)).setCell (p := ⟨g, 1, none⟩) hge (.int .i64 lv)).setCell (p := ⟨g, 2, none⟩) hge (.int .i64 0)).setCell (p := ⟨g, 3, none⟩) hge (.int .i64 m3)).setCell (p := ⟨g, 4, none⟩) hge (.int .i64 m4)).setCell (p := ⟨g, 5, none⟩) hge (.int .i64 m5)).setCell (p := ⟨g, 6, none⟩) hge (.int .i64 b6)))
   have HD := hD ((((((((HD.out.grown (grown_set _ ⟨g, 0, none⟩ (.int .i64 kd)) hneD).grown (grown_set _ ⟨g, 1, none⟩ (.int .i64 lv)) hneD).grown (grown_set _ ⟨g, 2, none⟩ (.int .i64 0)) hneD).grown (grown_set _ ⟨g, 3, none⟩ (.int .i64 m3)) hneD).grown (grown_set _ ⟨g, 4, none⟩ (.int .i64 m4)) hneD).grown (grown_set _ ⟨g, 5, none⟩ (.int .i64 m5)) hneD).grown (grown_set _ ⟨g, 6, none⟩ (.int .i64 b6)) hneD))
   have HR := hD ((((((((HR.out.grown (grown_set _ ⟨g, 0, none⟩ (.int .i64 kd)) hneR).grown (grown_set _ ⟨g, 1, none⟩ (.int .i64 lv)) hneR).grown (grown_set _ ⟨g, 2, none⟩ (.int .i64 0)) hneR).grown (grown_set _ ⟨g, 3, none⟩ (.int .i64 m3)) hneR).grown (grown_set _ ⟨g, 4, none⟩ (.int .i64 m4)) hneR).grown (grown_set _ ⟨g, 5, none⟩ (.int .i64 m5)) hneR).grown (grown_set _ ⟨g, 6, none⟩ (.int .i64 b6)) hneR))
   have HG := hD (((((((((HG.out.set 0 (.int .i64 kd)).set 1 (.int .i64 lv)).set 2 (.int .i64 0)).set 3 (.int .i64 m3)).set 4 (.int .i64 m4)).set 5 (.int .i64 m5)).set 6 (.int .i64 b6))).eq (cs' := [.int .i64 kd, .int .i64 lv, .int .i64 0, .int .i64 m3, .int .i64 m4, .int .i64 m5, .int .i64 b6]) rfl)
   clear z0 f0 z1 f1 z2 f2 z3 f3 z4 f4 z5 f5 z6 f6 lg
   generalize (World.setCell (World.setCell (World.setCell (World.setCell (World.setCell (World.setCell (World.setCell v2 ⟨g, 0, none⟩ (.int .i64 kd)) ⟨g, 1, none⟩ (.int .i64 lv)) ⟨g, 2, none⟩ (.int .i64 0)) ⟨g, 3, none⟩ (.int .i64 m3)) ⟨g, 4, none⟩ (.int .i64 m4)) ⟨g, 5, none⟩ (.int .i64 m5)) ⟨g, 6, none⟩ (.int .i64 b6)) = v3 at HL HD HR HG HQ HK ⊢
   have hT3 : (World.cell? v3 ⟨bb, bo, none⟩ = some (.int .u8 b0) ∧ World.cell? v3 ⟨bb, bo + 1, none⟩ = some (.int .u8 b1) ∧ World.cell? v3 ⟨bb, bo + 3, none⟩ = some (.int .u8 b3) ∧ World.cell? v3 ⟨bb, bo + 4, none⟩ = some (.int .u8 b4) ∧ World.cell? v3 ⟨bb, bo + 5, none⟩ = some (.int .u8 b5) ∧ World.cell? v3 ⟨bb, bo + 6, none⟩ = some (.int .u8 b6) ∧ World.cell? v3 ⟨lb, lo + q1, none⟩ = some (.int .i64 lv)) ∧ World.cell? v3 ⟨kb, ko + q0, none⟩ = some (.int .i64 kd) := ⟨⟨HBy.out.b0 _ HL.out, HBy.out.b1 _ HL.out, HBy.out.b3 _ HL.out, HBy.out.b4 _ HL.out, HBy.out.b5 _ HL.out, HBy.out.b6 _ HL.out, HQ.out⟩, HK.out⟩
   refine hK.out _ _ hT3 (fun hHeld => ?_)
   clear hK K
   try simp only [Act.put,qk1,qk2,qk3,qk4,qk5,qk6]
   refine wpAnyH_done (by kernel_rfl) ?_ _
   refine NoPanic.normal ?_
   clear HQ HK
   go_upto_region 7 with fail
   refine wp_region_noPanic ?_
   have HL : Hid (Below w.heap.size w v3.drew) := hD (bon HL.out (Below.refl _ _).drew)
   have HD : Hid (Vz v3.drew w.heap.size [.slice A n c, .slice B n2 c2, .int .u16 u, .slice D n3 c3, .slice E n4 c4, .slice F k c5]) := hD (HD.out.below (Below.refl _ _).drew)
   have HR : Hid (Vz v3.drew (w.heap.size + 1) [.int .i64 0, .int .i64 0, .int .i64 0, .int .i64 0, .int .i64 0, .int .i64 0, .int .i64 0]) := hD (HR.out.below (Below.refl _ _).drew)
   have HG : Hid (Vz v3.drew g [.int .i64 kd, .int .i64 lv, .int .i64 0, .int .i64 m3, .int .i64 m4, .int .i64 m5, .int .i64 b6]) := hD (HG.out.below (Below.refl _ _).drew)
   generalize hv : v3.drew = v8 at HL HD HR HG
   have hS8 : World.cell? v8 ⟨bb, bo + 2, none⟩ = some (.int .u8 b2) ∧ World.cell? v8 ⟨w.heap.size, 0, none⟩ = some (.slice A n c) ∧ World.cell? v8 ⟨w.heap.size, 1, none⟩ = some (.slice B n2 c2) ∧ World.cell? v8 ⟨w.heap.size, 2, none⟩ = some (.int .u16 u) ∧ World.cell? v8 ⟨w.heap.size, 3, none⟩ = some (.slice D n3 c3) ∧ World.cell? v8 ⟨w.heap.size, 4, none⟩ = some (.slice E n4 c4) ∧ World.cell? v8 ⟨w.heap.size, 5, none⟩ = some (.slice F k c5) ∧ World.cell? v8 ⟨g, 0, none⟩ = some (.int .i64 kd) := ⟨HBy.out.b2 _ HL.out, HD.out.cells 0 _ rfl, HD.out.cells 1 _ rfl, HD.out.cells 2 _ rfl, HD.out.cells 3 _ rfl, HD.out.cells 4 _ rfl, HD.out.cells 5 _ rfl, HG.out.cells 0 _ rfl⟩
   refine wp_region_held_drew (S := fun W => World.cell? W ⟨bb, bo + 2, none⟩ = some (.int .u8 b2) ∧ World.cell? W ⟨w.heap.size, 0, none⟩ = some (.slice A n c) ∧ World.cell? W ⟨w.heap.size, 1, none⟩ = some (.slice B n2 c2) ∧ World.cell? W ⟨w.heap.size, 2, none⟩ = some (.int .u16 u) ∧ World.cell? W ⟨w.heap.size, 3, none⟩ = some (.slice D n3 c3) ∧ World.cell? W ⟨w.heap.size, 4, none⟩ = some (.slice E n4 c4) ∧ World.cell? W ⟨w.heap.size, 5, none⟩ = some (.slice F k c5) ∧ World.cell? W ⟨g, 0, none⟩ = some (.int .i64 kd)) (by kernel_rfl) (by rw [hv]; exact hS8) (fun hHeld => ?_)
   rw [hv] at hHeld ⊢
   clear hv
   refine takes [0,1,2,3,4,5,6] ?_
   refine tkr 7 rfl (fun K hK => ?_)
   go_simp
   go_at_call 31
   refine (HRc.out _).mono ?_
   rintro e v9 ⟨rfl, hs⟩
   have HL := hD (bon HL.out hs)
   have HD := hD (HD.out.below hs)
   have HR := hD (HR.out.below hs)
   have HG := hD (HG.out.below hs)
   clear hs
   go_wp2_with fail
   have hS9 : World.cell? v9 ⟨bb, bo + 2, none⟩ = some (.int .u8 b2) ∧ World.cell? v9 ⟨w.heap.size, 0, none⟩ = some (.slice A n c) ∧ World.cell? v9 ⟨w.heap.size, 1, none⟩ = some (.slice B n2 c2) ∧ World.cell? v9 ⟨w.heap.size, 2, none⟩ = some (.int .u16 u) ∧ World.cell? v9 ⟨w.heap.size, 3, none⟩ = some (.slice D n3 c3) ∧ World.cell? v9 ⟨w.heap.size, 4, none⟩ = some (.slice E n4 c4) ∧ World.cell? v9 ⟨w.heap.size, 5, none⟩ = some (.slice F k c5) ∧ World.cell? v9 ⟨g, 0, none⟩ = some (.int .i64 kd) := ⟨HBy.out.b2 _ HL.out, HD.out.cells 0 _ rfl, HD.out.cells 1 _ rfl, HD.out.cells 2 _ rfl, HD.out.cells 3 _ rfl, HD.out.cells 4 _ rfl, HD.out.cells 5 _ rfl, HG.out.cells 0 _ rfl⟩
   refine hK.out _ _ hS9 (fun hHeld => ?_)
   clear hK K
   try simp only [Act.put,qk1,qk2,qk3,qk4,qk5,qk6]
   refine takes [8,9] ?_
   have z2 := HG.out.cells 2 _ rfl
   have f2 := HG.out.free 2 (by simp)
   have lg := HG.out.lt
   refine tkr 10 rfl (fun K hK => ?_)
   go_simp
   have HL := hD ((HL.out.setCell (p := ⟨g, 2, none⟩) hge (.int .i64 m2)))
   have HD := hD ((HD.out.grown (grown_set _ ⟨g, 2, none⟩ (.int .i64 m2)) hneD))
   have HR := hD ((HR.out.grown (grown_set _ ⟨g, 2, none⟩ (.int .i64 m2)) hneR))
   have HG := hD (((HG.out.set 2 (.int .i64 m2))).eq (cs' := [.int .i64 kd, .int .i64 lv, .int .i64 m2, .int .i64 m3, .int .i64 m4, .int .i64 m5, .int .i64 b6]) rfl)
   clear z2 f2 lg
   generalize (World.setCell v9 ⟨g, 2, none⟩ (.int .i64 m2)) = v10 at HL HD HR HG ⊢
   have hS10 : World.cell? v10 ⟨bb, bo + 2, none⟩ = some (.int .u8 b2) ∧ World.cell? v10 ⟨w.heap.size, 0, none⟩ = some (.slice A n c) ∧ World.cell? v10 ⟨w.heap.size, 1, none⟩ = some (.slice B n2 c2) ∧ World.cell? v10 ⟨w.heap.size, 2, none⟩ = some (.int .u16 u) ∧ World.cell? v10 ⟨w.heap.size, 3, none⟩ = some (.slice D n3 c3) ∧ World.cell? v10 ⟨w.heap.size, 4, none⟩ = some (.slice E n4 c4) ∧ World.cell? v10 ⟨w.heap.size, 5, none⟩ = some (.slice F k c5) ∧ World.cell? v10 ⟨g, 0, none⟩ = some (.int .i64 kd) := ⟨HBy.out.b2 _ HL.out, HD.out.cells 0 _ rfl, HD.out.cells 1 _ rfl, HD.out.cells 2 _ rfl, HD.out.cells 3 _ rfl, HD.out.cells 4 _ rfl, HD.out.cells 5 _ rfl, HG.out.cells 0 _ rfl⟩
   refine hK.out _ _ hS10 (fun hHeld => ?_)
   clear hK K
   try simp only [Act.put,qk1,qk2,qk3,qk4,qk5,qk6]
   refine wpAnyH_done (by kernel_rfl) ?_ _
   refine NoPanic.normal ?_
   have y0 := HG.out.cells 0 _ rfl
   have z0 := HR.out.cells 0 _ rfl
   have f0 := HR.out.free 0 (by simp)
   have y1 := HG.out.cells 1 _ rfl
   have z1 := HR.out.cells 1 _ rfl
   have f1 := HR.out.free 1 (by simp)
   have y2 := HG.out.cells 2 _ rfl
   have z2 := HR.out.cells 2 _ rfl
   have f2 := HR.out.free 2 (by simp)
   have y3 := HG.out.cells 3 _ rfl
   have z3 := HR.out.cells 3 _ rfl
   have f3 := HR.out.free 3 (by simp)
   have y4 := HG.out.cells 4 _ rfl
   have z4 := HR.out.cells 4 _ rfl
   have f4 := HR.out.free 4 (by simp)
   have y5 := HG.out.cells 5 _ rfl
   have z5 := HR.out.cells 5 _ rfl
   have f5 := HR.out.free 5 (by simp)
   have y6 := HG.out.cells 6 _ rfl
   have z6 := HR.out.cells 6 _ rfl
   have f6 := HR.out.free 6 (by simp)
   have lr := HR.out.lt
   have lg := HG.out.lt
   have hg1 : w.heap.size ≤ w.heap.size + 1 := by omega
   go_wp2_with fail
   refine bodyPost_ret (v := .tuple #[.agg #[.int .i64 kd, .int .i64 lv, .int .i64 m2, .int .i64 m3, .int .i64 m4, .int .i64 m5, .int .i64 b6], .int .i64 0]) (by simp [results, Tryz.results16, go_sem, z0, z1, z2, z3, z4, z5, z6]) rfl ⟨by rw [HRes.out], ?_⟩
   exact ((((((HL.out.setCell (p := ⟨w.heap.size + 1, 0, none⟩) hg1 _).setCell (p := ⟨w.heap.size + 1, 1, none⟩) hg1 _).setCell (p := ⟨w.heap.size + 1, 2, none⟩) hg1 _).setCell (p := ⟨w.heap.size + 1, 3, none⟩) hg1 _).setCell (p := ⟨w.heap.size + 1, 4, none⟩) hg1 _).setCell (p := ⟨w.heap.size + 1, 5, none⟩) hg1 _).setCell (p := ⟨w.heap.size + 1, 6, none⟩) hg1 _
 · go_simp
   have HG : Hid (Vz (World.alloc v0 (.cells #[.int .i64 0, .int .i64 0, .int .i64 0, .int .i64 0, .int .i64 0, .int .i64 0, .int .i64 0] 28)) (World.heap v0).size [.int .i64 0, .int .i64 0, .int .i64 0, .int .i64 0, .int .i64 0, .int .i64 0, .int .i64 0]) := hD (Vz.new v0 [.int .i64 0, .int .i64 0, .int .i64 0, .int .i64 0, .int .i64 0, .int .i64 0, .int .i64 0] 28)
   have hs := below_new v0 (.cells #[.int .i64 0, .int .i64 0, .int .i64 0, .int .i64 0, .int .i64 0, .int .i64 0, .int .i64 0] 28)
   have HGw : Hid (w.heap.size + 1 < (World.heap v0).size) := hD HR.out.lt
   have hlg : lb ≠ (World.heap v0).size := Nat.ne_of_lt (Lib.lt_of_cell HQ.out)
   have HL := hD (bon HL.out hs)
   have HD := hD (HD.out.below hs)
   have HR := hD (HR.out.below hs)
   have HQ := hD ((hs.cell (p := ⟨lb, lo + q1, none⟩) (Lib.lt_of_cell HQ.out)).trans HQ.out)
   clear hs
   generalize World.alloc v0 (.cells #[.int .i64 0, .int .i64 0, .int .i64 0, .int .i64 0, .int .i64 0, .int .i64 0, .int .i64 0] 28) = v1 at HG HL HD HR HQ ⊢
   generalize (World.heap v0).size = g at HG HGw hlg ⊢
   have hS1 : World.cell? v1 ⟨bb, bo, none⟩ = some (.int .u8 b0) ∧ World.cell? v1 ⟨bb, bo + 1, none⟩ = some (.int .u8 b1) ∧ World.cell? v1 ⟨bb, bo + 3, none⟩ = some (.int .u8 b3) ∧ World.cell? v1 ⟨bb, bo + 4, none⟩ = some (.int .u8 b4) ∧ World.cell? v1 ⟨bb, bo + 5, none⟩ = some (.int .u8 b5) ∧ World.cell? v1 ⟨bb, bo + 6, none⟩ = some (.int .u8 b6) ∧ World.cell? v1 ⟨lb, lo + q1, none⟩ = some (.int .i64 lv) := ⟨HBy.out.b0 _ HL.out, HBy.out.b1 _ HL.out, HBy.out.b3 _ HL.out, HBy.out.b4 _ HL.out, HBy.out.b5 _ HL.out, HBy.out.b6 _ HL.out, HQ.out⟩
   refine hK.out _ _ hS1 (fun hHeld => ?_)
   clear hK K
   try simp only [Act.put,qk1,qk2,qk3,qk4,qk5,qk6]
   refine tkr 0 rfl (fun K hK => ?_)
   go_simp
   go_at_call 28
   refine (kindsR_any v1).mono ?_
   rintro e v2 ⟨A7, c7, rfl, hr7, hs⟩
   have HL := hD (bon HL.out hs)
   have HD := hD (HD.out.below hs)
   have HR := hD (HR.out.below hs)
   have HQ := hD ((hs.cell (p := ⟨lb, lo + q1, none⟩) (Lib.lt_of_cell HQ.out)).trans HQ.out)
   have HG := hD (HG.out.below hs)
   obtain ⟨kb, ko, rfl, _, hkc⟩ := hr7.cells (by simp [intC])
   have HK : Hid (World.cell? v2 ⟨kb, ko + q0, none⟩ = some (.int .i64 kd)) := hD (by rw [HKd.out]; exact hkc q0 _ (k5at q0 hq05))
   clear hr7 hkc hs
   go_wp2_with fail
   have hS2 : World.cell? v2 ⟨bb, bo, none⟩ = some (.int .u8 b0) ∧ World.cell? v2 ⟨bb, bo + 1, none⟩ = some (.int .u8 b1) ∧ World.cell? v2 ⟨bb, bo + 3, none⟩ = some (.int .u8 b3) ∧ World.cell? v2 ⟨bb, bo + 4, none⟩ = some (.int .u8 b4) ∧ World.cell? v2 ⟨bb, bo + 5, none⟩ = some (.int .u8 b5) ∧ World.cell? v2 ⟨bb, bo + 6, none⟩ = some (.int .u8 b6) ∧ World.cell? v2 ⟨lb, lo + q1, none⟩ = some (.int .i64 lv) := ⟨HBy.out.b0 _ HL.out, HBy.out.b1 _ HL.out, HBy.out.b3 _ HL.out, HBy.out.b4 _ HL.out, HBy.out.b5 _ HL.out, HBy.out.b6 _ HL.out, HQ.out⟩
   refine hK.out _ _ hS2 (fun hHeld => ?_)
   clear hK K
   try simp only [Act.put,qk1,qk2,qk3,qk4,qk5,qk6]
   refine takes [5] ?_
   have k2 := HK.out
   refine tkr 6 rfl (fun K hK => ?_)
   go_simp
   clear k2
   refine hK.out _ _ hS2 (fun hHeld => ?_)
   clear hK K
   try simp only [Act.put,qk1,qk2,qk3,qk4,qk5,qk6]
   refine takes [37] ?_
   have hge : w.heap.size ≤ g := by have := HGw.out; omega
   have hneD : some g ≠ some w.heap.size := by have := HGw.out; simp; omega
   have hneR : some g ≠ some (w.heap.size + 1) := by have := HGw.out; simp; omega
   have z0 := HG.out.cells 0 _ rfl
   have f0 := HG.out.free 0 (by simp)
   have z1 := HG.out.cells 1 _ rfl
   have f1 := HG.out.free 1 (by simp)
   have z2 := HG.out.cells 2 _ rfl
   have f2 := HG.out.free 2 (by simp)
   have z3 := HG.out.cells 3 _ rfl
   have f3 := HG.out.free 3 (by simp)
   have z4 := HG.out.cells 4 _ rfl
   have f4 := HG.out.free 4 (by simp)
   have z5 := HG.out.cells 5 _ rfl
   have f5 := HG.out.free 5 (by simp)
   have z6 := HG.out.cells 6 _ rfl
   have f6 := HG.out.free 6 (by simp)
   have lg := HG.out.lt
   refine tkr 39 rfl (fun K hK => ?_)
   go_simp
   have hQ := far7 HQ.out hlg (.int .i64 kd) (.int .i64 lv) (.int .i64 0) (.int .i64 m3) (.int .i64 m4) (.int .i64 m5) (.int .i64 b6)
   have HQ := hD hQ
   clear hQ HK
   have HL := hD ((((((((HL.out.setCell (p := ⟨g, 0, none⟩) hge (.int .i64 kd)).setCell (p := ⟨g, 1, none⟩) hge (.int .i64 lv)).setCell (p := ⟨g, 2, none⟩) hge (.int .i64 0)).setCell (p := ⟨g, 3, none⟩) hge (.int .i64 m3)).setCell (p := ⟨g, 4, none⟩) hge (.int .i64 m4)).setCell (p := ⟨g, 5, none⟩) hge (.int .i64 m5)).setCell (p := ⟨g, 6, none⟩) hge (.int .i64 b6)))
   have HD := hD ((((((((HD.out.grown (grown_set _ ⟨g, 0, none⟩ (.int .i64 kd)) hneD).grown (grown_set _ ⟨g, 1, none⟩ (.int .i64 lv)) hneD).grown (grown_set _ ⟨g, 2, none⟩ (.int .i64 0)) hneD).grown (grown_set _ ⟨g, 3, none⟩ (.int .i64 m3)) hneD).grown (grown_set _ ⟨g, 4, none⟩ (.int .i64 m4)) hneD).grown (grown_set _ ⟨g, 5, none⟩ (.int .i64 m5)) hneD).grown (grown_set _ ⟨g, 6, none⟩ (.int .i64 b6)) hneD))
   have HR := hD ((((((((HR.out.grown (grown_set _ ⟨g, 0, none⟩ (.int .i64 kd)) hneR).grown (grown_set _ ⟨g, 1, none⟩ (.int .i64 lv)) hneR).grown (grown_set _ ⟨g, 2, none⟩ (.int .i64 0)) hneR).grown (grown_set _ ⟨g, 3, none⟩ (.int .i64 m3)) hneR).grown (grown_set _ ⟨g, 4, none⟩ (.int .i64 m4)) hneR).grown (grown_set _ ⟨g, 5, none⟩ (.int .i64 m5)) hneR).grown (grown_set _ ⟨g, 6, none⟩ (.int .i64 b6)) hneR))
   have HG := hD (((((((((HG.out.set 0 (.int .i64 kd)).set 1 (.int .i64 lv)).set 2 (.int .i64 0)).set 3 (.int .i64 m3)).set 4 (.int .i64 m4)).set 5 (.int .i64 m5)).set 6 (.int .i64 b6))).eq (cs' := [.int .i64 kd, .int .i64 lv, .int .i64 0, .int .i64 m3, .int .i64 m4, .int .i64 m5, .int .i64 b6]) rfl)
   clear z0 f0 z1 f1 z2 f2 z3 f3 z4 f4 z5 f5 z6 f6 lg
   generalize (World.setCell (World.setCell (World.setCell (World.setCell (World.setCell (World.setCell (World.setCell v2 ⟨g, 0, none⟩ (.int .i64 kd)) ⟨g, 1, none⟩ (.int .i64 lv)) ⟨g, 2, none⟩ (.int .i64 0)) ⟨g, 3, none⟩ (.int .i64 m3)) ⟨g, 4, none⟩ (.int .i64 m4)) ⟨g, 5, none⟩ (.int .i64 m5)) ⟨g, 6, none⟩ (.int .i64 b6)) = v3 at HL HD HR HG HQ ⊢
   have hS3 : World.cell? v3 ⟨bb, bo, none⟩ = some (.int .u8 b0) ∧ World.cell? v3 ⟨bb, bo + 1, none⟩ = some (.int .u8 b1) ∧ World.cell? v3 ⟨bb, bo + 3, none⟩ = some (.int .u8 b3) ∧ World.cell? v3 ⟨bb, bo + 4, none⟩ = some (.int .u8 b4) ∧ World.cell? v3 ⟨bb, bo + 5, none⟩ = some (.int .u8 b5) ∧ World.cell? v3 ⟨bb, bo + 6, none⟩ = some (.int .u8 b6) ∧ World.cell? v3 ⟨lb, lo + q1, none⟩ = some (.int .i64 lv) := ⟨HBy.out.b0 _ HL.out, HBy.out.b1 _ HL.out, HBy.out.b3 _ HL.out, HBy.out.b4 _ HL.out, HBy.out.b5 _ HL.out, HBy.out.b6 _ HL.out, HQ.out⟩
   refine hK.out _ _ hS3 (fun hHeld => ?_)
   clear hK K
   try simp only [Act.put,qk1,qk2,qk3,qk4,qk5,qk6]
   refine wpAnyH_done (by kernel_rfl) ?_ _
   refine NoPanic.normal ?_
   clear HQ
   go_upto_region 7 with fail
   refine wp_region_noPanic ?_
   have HL : Hid (Below w.heap.size w v3.drew) := hD (bon HL.out (Below.refl _ _).drew)
   have HD : Hid (Vz v3.drew w.heap.size [.slice A n c, .slice B n2 c2, .int .u16 u, .slice D n3 c3, .slice E n4 c4, .slice F k c5]) := hD (HD.out.below (Below.refl _ _).drew)
   have HR : Hid (Vz v3.drew (w.heap.size + 1) [.int .i64 0, .int .i64 0, .int .i64 0, .int .i64 0, .int .i64 0, .int .i64 0, .int .i64 0]) := hD (HR.out.below (Below.refl _ _).drew)
   have HG : Hid (Vz v3.drew g [.int .i64 kd, .int .i64 lv, .int .i64 0, .int .i64 m3, .int .i64 m4, .int .i64 m5, .int .i64 b6]) := hD (HG.out.below (Below.refl _ _).drew)
   generalize hv : v3.drew = v8 at HL HD HR HG
   have hS8 : World.cell? v8 ⟨bb, bo + 2, none⟩ = some (.int .u8 b2) ∧ World.cell? v8 ⟨w.heap.size, 0, none⟩ = some (.slice A n c) ∧ World.cell? v8 ⟨w.heap.size, 1, none⟩ = some (.slice B n2 c2) ∧ World.cell? v8 ⟨w.heap.size, 2, none⟩ = some (.int .u16 u) ∧ World.cell? v8 ⟨w.heap.size, 3, none⟩ = some (.slice D n3 c3) ∧ World.cell? v8 ⟨w.heap.size, 4, none⟩ = some (.slice E n4 c4) ∧ World.cell? v8 ⟨w.heap.size, 5, none⟩ = some (.slice F k c5) ∧ World.cell? v8 ⟨g, 0, none⟩ = some (.int .i64 kd) := ⟨HBy.out.b2 _ HL.out, HD.out.cells 0 _ rfl, HD.out.cells 1 _ rfl, HD.out.cells 2 _ rfl, HD.out.cells 3 _ rfl, HD.out.cells 4 _ rfl, HD.out.cells 5 _ rfl, HG.out.cells 0 _ rfl⟩
   refine wp_region_held_drew (S := fun W => World.cell? W ⟨bb, bo + 2, none⟩ = some (.int .u8 b2) ∧ World.cell? W ⟨w.heap.size, 0, none⟩ = some (.slice A n c) ∧ World.cell? W ⟨w.heap.size, 1, none⟩ = some (.slice B n2 c2) ∧ World.cell? W ⟨w.heap.size, 2, none⟩ = some (.int .u16 u) ∧ World.cell? W ⟨w.heap.size, 3, none⟩ = some (.slice D n3 c3) ∧ World.cell? W ⟨w.heap.size, 4, none⟩ = some (.slice E n4 c4) ∧ World.cell? W ⟨w.heap.size, 5, none⟩ = some (.slice F k c5) ∧ World.cell? W ⟨g, 0, none⟩ = some (.int .i64 kd)) (by kernel_rfl) (by rw [hv]; exact hS8) (fun hHeld => ?_)
   rw [hv] at hHeld ⊢
   clear hv
   refine takes [0,1,2,3,4,5,6] ?_
   refine tkr 7 rfl (fun K hK => ?_)
   go_simp
   go_at_call 31
   refine (HRc.out _).mono ?_
   rintro e v9 ⟨rfl, hs⟩
   have HL := hD (bon HL.out hs)
   have HD := hD (HD.out.below hs)
   have HR := hD (HR.out.below hs)
   have HG := hD (HG.out.below hs)
   clear hs
   go_wp2_with fail
   have hS9 : World.cell? v9 ⟨bb, bo + 2, none⟩ = some (.int .u8 b2) ∧ World.cell? v9 ⟨w.heap.size, 0, none⟩ = some (.slice A n c) ∧ World.cell? v9 ⟨w.heap.size, 1, none⟩ = some (.slice B n2 c2) ∧ World.cell? v9 ⟨w.heap.size, 2, none⟩ = some (.int .u16 u) ∧ World.cell? v9 ⟨w.heap.size, 3, none⟩ = some (.slice D n3 c3) ∧ World.cell? v9 ⟨w.heap.size, 4, none⟩ = some (.slice E n4 c4) ∧ World.cell? v9 ⟨w.heap.size, 5, none⟩ = some (.slice F k c5) ∧ World.cell? v9 ⟨g, 0, none⟩ = some (.int .i64 kd) := ⟨HBy.out.b2 _ HL.out, HD.out.cells 0 _ rfl, HD.out.cells 1 _ rfl, HD.out.cells 2 _ rfl, HD.out.cells 3 _ rfl, HD.out.cells 4 _ rfl, HD.out.cells 5 _ rfl, HG.out.cells 0 _ rfl⟩
   refine hK.out _ _ hS9 (fun hHeld => ?_)
   clear hK K
   try simp only [Act.put,qk1,qk2,qk3,qk4,qk5,qk6]
   refine takes [8,9] ?_
   have z2 := HG.out.cells 2 _ rfl
   have f2 := HG.out.free 2 (by simp)
   have lg := HG.out.lt
   refine tkr 10 rfl (fun K hK => ?_)
   go_simp
   have HL := hD ((HL.out.setCell (p := ⟨g, 2, none⟩) hge (.int .i64 m2)))
   have HD := hD ((HD.out.grown (grown_set _ ⟨g, 2, none⟩ (.int .i64 m2)) hneD))
   have HR := hD ((HR.out.grown (grown_set _ ⟨g, 2, none⟩ (.int .i64 m2)) hneR))
   have HG := hD (((HG.out.set 2 (.int .i64 m2))).eq (cs' := [.int .i64 kd, .int .i64 lv, .int .i64 m2, .int .i64 m3, .int .i64 m4, .int .i64 m5, .int .i64 b6]) rfl)
   clear z2 f2 lg
   generalize (World.setCell v9 ⟨g, 2, none⟩ (.int .i64 m2)) = v10 at HL HD HR HG ⊢
   have hS10 : World.cell? v10 ⟨bb, bo + 2, none⟩ = some (.int .u8 b2) ∧ World.cell? v10 ⟨w.heap.size, 0, none⟩ = some (.slice A n c) ∧ World.cell? v10 ⟨w.heap.size, 1, none⟩ = some (.slice B n2 c2) ∧ World.cell? v10 ⟨w.heap.size, 2, none⟩ = some (.int .u16 u) ∧ World.cell? v10 ⟨w.heap.size, 3, none⟩ = some (.slice D n3 c3) ∧ World.cell? v10 ⟨w.heap.size, 4, none⟩ = some (.slice E n4 c4) ∧ World.cell? v10 ⟨w.heap.size, 5, none⟩ = some (.slice F k c5) ∧ World.cell? v10 ⟨g, 0, none⟩ = some (.int .i64 kd) := ⟨HBy.out.b2 _ HL.out, HD.out.cells 0 _ rfl, HD.out.cells 1 _ rfl, HD.out.cells 2 _ rfl, HD.out.cells 3 _ rfl, HD.out.cells 4 _ rfl, HD.out.cells 5 _ rfl, HG.out.cells 0 _ rfl⟩
   refine hK.out _ _ hS10 (fun hHeld => ?_)
   clear hK K
   try simp only [Act.put,qk1,qk2,qk3,qk4,qk5,qk6]
   refine wpAnyH_done (by kernel_rfl) ?_ _
   refine NoPanic.normal ?_
   have y0 := HG.out.cells 0 _ rfl
   have z0 := HR.out.cells 0 _ rfl
   have f0 := HR.out.free 0 (by simp)
   have y1 := HG.out.cells 1 _ rfl
   have z1 := HR.out.cells 1 _ rfl
   have f1 := HR.out.free 1 (by simp)
   have y2 := HG.out.cells 2 _ rfl
   have z2 := HR.out.cells 2 _ rfl
   have f2 := HR.out.free 2 (by simp)
   have y3 := HG.out.cells 3 _ rfl
   have z3 := HR.out.cells 3 _ rfl
   have f3 := HR.out.free 3 (by simp)
   have y4 := HG.out.cells 4 _ rfl
   have z4 := HR.out.cells 4 _ rfl
   have f4 := HR.out.free 4 (by simp)
   have y5 := HG.out.cells 5 _ rfl
   have z5 := HR.out.cells 5 _ rfl
   have f5 := HR.out.free 5 (by simp)
   have y6 := HG.out.cells 6 _ rfl
   have z6 := HR.out.cells 6 _ rfl
   have f6 := HR.out.free 6 (by simp)
   have lr := HR.out.lt
   have lg := HG.out.lt
   have hg1 : w.heap.size ≤ w.heap.size + 1 := by omega
   go_wp2_with fail
   refine bodyPost_ret (v := .tuple #[.agg #[.int .i64 kd, .int .i64 lv, .int .i64 m2, .int .i64 m3, .int .i64 m4, .int .i64 m5, .int .i64 b6], .int .i64 0]) (by simp [results, Tryz.results16, go_sem, z0, z1, z2, z3, z4, z5, z6]) rfl ⟨by rw [HRes.out], ?_⟩
   exact ((((((HL.out.setCell (p := ⟨w.heap.size + 1, 0, none⟩) hg1 _).setCell (p := ⟨w.heap.size + 1, 1, none⟩) hg1 _).setCell (p := ⟨w.heap.size + 1, 2, none⟩) hg1 _).setCell (p := ⟨w.heap.size + 1, 3, none⟩) hg1 _).setCell (p := ⟨w.heap.size + 1, 4, none⟩) hg1 _).setCell (p := ⟨w.heap.size + 1, 5, none⟩) hg1 _).setCell (p := ⟨w.heap.size + 1, 6, none⟩) hg1 _
open Go.RowKit
set_option maxRecDepth 100000 in
set_option maxHeartbeats 8000000 in
theorem decR_short (A B D E F : Option Addr) (u : Int) (n k c n2 c2 n3 c3 n4 c4 c5 : Nat) (s LL cb : Nat) (Ab : Option Addr) (w : World) (hL : LL ≠ 7) :
    Calls Tryz.prog 16 #[.agg #[.slice A n c, .slice B n2 c2, .int .u16 u, .slice D n3 c3, .slice E n4 c4, .slice F k c5], .int .u16 (s : Int), .slice Ab LL cb] w (RetLie li0 6 w) := by
 have HL0 : Hid (Below w.heap.size w ((w.alloc (.cells #[.slice A n c, .slice B n2 c2, .int .u16 u, .slice D n3 c3, .slice E n4 c4, .slice F k c5] 36)).alloc (.cells #[.int .i64 0, .int .i64 0, .int .i64 0, .int .i64 0, .int .i64 0, .int .i64 0, .int .i64 0] 28))) := hD (bon (below_new w _) (below_new _ _))
 have HD0 : Hid (Vz ((w.alloc (.cells #[.slice A n c, .slice B n2 c2, .int .u16 u, .slice D n3 c3, .slice E n4 c4, .slice F k c5] 36)).alloc (.cells #[.int .i64 0, .int .i64 0, .int .i64 0, .int .i64 0, .int .i64 0, .int .i64 0, .int .i64 0] 28)) w.heap.size [.slice A n c, .slice B n2 c2, .int .u16 u, .slice D n3 c3, .slice E n4 c4, .slice F k c5]) := hD ((Vz.new w [.slice A n c, .slice B n2 c2, .int .u16 u, .slice D n3 c3, .slice E n4 c4, .slice F k c5] 36).below (below_new _ _))
 have HR0 : Hid (Vz ((w.alloc (.cells #[.slice A n c, .slice B n2 c2, .int .u16 u, .slice D n3 c3, .slice E n4 c4, .slice F k c5] 36)).alloc (.cells #[.int .i64 0, .int .i64 0, .int .i64 0, .int .i64 0, .int .i64 0, .int .i64 0, .int .i64 0] 28)) (w.heap.size + 1) [.int .i64 0, .int .i64 0, .int .i64 0, .int .i64 0, .int .i64 0, .int .i64 0, .int .i64 0]) := hD (by
  have h9 := Vz.new (w.alloc (.cells #[.slice A n c, .slice B n2 c2, .int .u16 u, .slice D n3 c3, .slice E n4 c4, .slice F k c5] 36)) [.int .i64 0, .int .i64 0, .int .i64 0, .int .i64 0, .int .i64 0, .int .i64 0, .int .i64 0] 28
  rw [World.size_alloc] at h9
  exact h9)
 obtain ⟨w2, hw2⟩ : ∃ w2, w2 = ((w.alloc (.cells #[.slice A n c, .slice B n2 c2, .int .u16 u, .slice D n3 c3, .slice E n4 c4, .slice F k c5] 36)).alloc (.cells #[.int .i64 0, .int .i64 0, .int .i64 0, .int .i64 0, .int .i64 0, .int .i64 0, .int .i64 0] 28)) := ⟨_, rfl⟩
 rw [← hw2] at HL0 HD0 HR0
 have HW2 : Hid (((w.alloc (.cells #[.slice A n c, .slice B n2 c2, .int .u16 u, .slice D n3 c3, .slice E n4 c4, .slice F k c5] 36)).alloc (.cells #[.int .i64 0, .int .i64 0, .int .i64 0, .int .i64 0, .int .i64 0, .int .i64 0, .int .i64 0] 28)) = w2) := hD hw2.symm
 have e1 : ((LL : Int) != 7) = true := by rw [bne_iff_ne]; omega
 clear hw2 hL
 go_enter Tryz.func16, Tryz.ntmps16
 go_upto_region 1 with fail
 refine world_eqA HW2.out ?_
 have y0 := HR0.out.cells 0 _ rfl
 have g0 := HR0.out.free 0 (by simp)
 have y1 := HR0.out.cells 1 _ rfl
 have g1 := HR0.out.free 1 (by simp)
 have y2 := HR0.out.cells 2 _ rfl
 have g2 := HR0.out.free 2 (by simp)
 have y3 := HR0.out.cells 3 _ rfl
 have g3 := HR0.out.free 3 (by simp)
 have y4 := HR0.out.cells 4 _ rfl
 have g4 := HR0.out.free 4 (by simp)
 have y5 := HR0.out.cells 5 _ rfl
 have g5 := HR0.out.free 5 (by simp)
 have y6 := HR0.out.cells 6 _ rfl
 have g6 := HR0.out.free 6 (by simp)
 have ly := HR0.out.lt
 have hge : w.heap.size ≤ w.heap.size + 1 := by omega
 go_wp2_with fail
 refine bodyPost_ret (v := .tuple #[.agg #[.int .i64 0, .int .i64 0, .int .i64 0, .int .i64 0, .int .i64 0, .int .i64 0, .int .i64 0], .int .i64 6]) (by simp [results, Tryz.results16, go_sem, y0, y1, y2, y3, y4, y5, y6, World.cell?_setCell_same, World.cell?_setCell_other]) rfl ⟨rfl, ?_⟩
 exact ((((((HL0.out.setCell (p := ⟨w.heap.size + 1, 0, none⟩) hge (.int .i64 0)).setCell (p := ⟨w.heap.size + 1, 1, none⟩) hge (.int .i64 0)).setCell (p := ⟨w.heap.size + 1, 2, none⟩) hge (.int .i64 0)).setCell (p := ⟨w.heap.size + 1, 3, none⟩) hge (.int .i64 0)).setCell (p := ⟨w.heap.size + 1, 4, none⟩) hge (.int .i64 0)).setCell (p := ⟨w.heap.size + 1, 5, none⟩) hge (.int .i64 0)).setCell (p := ⟨w.heap.size + 1, 6, none⟩) hge (.int .i64 0)
set_option maxRecDepth 100000 in
set_option maxHeartbeats 8000000 in
theorem decR_none (A B D E F : Option Addr) (u : Int) (n k c n2 c2 n3 c3 n4 c4 c5 : Nat) (s bb bo cb : Nat) (w : World) (hs : s < 65536) (hn5 : n ≤ 5) (hm : memTo s n = []) :
    Calls Tryz.prog 16 #[.agg #[.slice A n c, .slice B n2 c2, .int .u16 u, .slice D n3 c3, .slice E n4 c4, .slice F k c5], .int .u16 (s : Int), .slice (some ⟨bb, bo, none⟩) 7 cb] w (RetLie li0 9 w) := by
 have HL0 : Hid (Below w.heap.size w ((w.alloc (.cells #[.slice A n c, .slice B n2 c2, .int .u16 u, .slice D n3 c3, .slice E n4 c4, .slice F k c5] 36)).alloc (.cells #[.int .i64 0, .int .i64 0, .int .i64 0, .int .i64 0, .int .i64 0, .int .i64 0, .int .i64 0] 28))) := hD (bon (below_new w _) (below_new _ _))
 have HD0 : Hid (Vz ((w.alloc (.cells #[.slice A n c, .slice B n2 c2, .int .u16 u, .slice D n3 c3, .slice E n4 c4, .slice F k c5] 36)).alloc (.cells #[.int .i64 0, .int .i64 0, .int .i64 0, .int .i64 0, .int .i64 0, .int .i64 0, .int .i64 0] 28)) w.heap.size [.slice A n c, .slice B n2 c2, .int .u16 u, .slice D n3 c3, .slice E n4 c4, .slice F k c5]) := hD ((Vz.new w [.slice A n c, .slice B n2 c2, .int .u16 u, .slice D n3 c3, .slice E n4 c4, .slice F k c5] 36).below (below_new _ _))
 have HR0 : Hid (Vz ((w.alloc (.cells #[.slice A n c, .slice B n2 c2, .int .u16 u, .slice D n3 c3, .slice E n4 c4, .slice F k c5] 36)).alloc (.cells #[.int .i64 0, .int .i64 0, .int .i64 0, .int .i64 0, .int .i64 0, .int .i64 0, .int .i64 0] 28)) (w.heap.size + 1) [.int .i64 0, .int .i64 0, .int .i64 0, .int .i64 0, .int .i64 0, .int .i64 0, .int .i64 0]) := hD (by
  have h9 := Vz.new (w.alloc (.cells #[.slice A n c, .slice B n2 c2, .int .u16 u, .slice D n3 c3, .slice E n4 c4, .slice F k c5] 36)) [.int .i64 0, .int .i64 0, .int .i64 0, .int .i64 0, .int .i64 0, .int .i64 0, .int .i64 0] 28
  rw [World.size_alloc] at h9
  exact h9)
 obtain ⟨w2, hw2⟩ : ∃ w2, w2 = ((w.alloc (.cells #[.slice A n c, .slice B n2 c2, .int .u16 u, .slice D n3 c3, .slice E n4 c4, .slice F k c5] 36)).alloc (.cells #[.int .i64 0, .int .i64 0, .int .i64 0, .int .i64 0, .int .i64 0, .int .i64 0, .int .i64 0] 28)) := ⟨_, rfl⟩
 rw [← hw2] at HL0 HD0 HR0
 have HW2 : Hid (((w.alloc (.cells #[.slice A n c, .slice B n2 c2, .int .u16 u, .slice D n3 c3, .slice E n4 c4, .slice F k c5] 36)).alloc (.cells #[.int .i64 0, .int .i64 0, .int .i64 0, .int .i64 0, .int .i64 0, .int .i64 0, .int .i64 0] 28)) = w2) := hD hw2.symm
 have HEv := hD (fun W => every_any n W hn5)
 obtain ⟨al, hal⟩ : ∃ al, al = 2 ^ n - 1 := ⟨_, rfl⟩
 have hal16 : al < 65536 := by rw [hal]; have : 2 ^ n ≤ 2 ^ 5 := Nat.pow_le_pow_right (by decide) hn5; omega
 have hand : bits .and .u16 (s : Int) (al : Int) = ((s &&& al : Nat) : Int) := u16_and_nat s al hs hal16
 obtain ⟨sa, hsa⟩ : ∃ sa, sa = s &&& al := ⟨_, rfl⟩
 have hsa16 : sa < 65536 := by rw [hsa]; exact Nat.lt_of_le_of_lt Nat.and_le_right hal16
 have HM := hD (fun W => memRef_any sa W hsa16)
 have HMs : Hid (memTo sa 16 = []) := hD (by rw [hsa, hal, memTo_and s n (by omega) 16 (by omega)]; exact hm)
 rw [← hal] at HEv
 rw [← hsa] at hand
 clear hw2 hm hal hsa hs hal16
 go_enter Tryz.func16, Tryz.ntmps16
 go_upto_region 1 with fail
 refine world_eqA HW2.out ?_
 have x0 := HD0.out.cells 0 _ rfl
 have lx := HD0.out.lt
 go_wp2_with fail
 refine (HEv.out _).mono ?_
 rintro e w3 ⟨rfl, rfl⟩
 go_wp2_with fail
 refine (HM.out _).mono ?_
 rintro e w5 ⟨A5, c8, rfl, hrd, hb9⟩
 rw [HMs.out]
 have HL := hD (bon HL0.out hb9)
 have HR := hD (HR0.out.below hb9)
 clear hrd hb9 x0 lx
 have y0 := HR.out.cells 0 _ rfl
 have g0 := HR.out.free 0 (by simp)
 have y1 := HR.out.cells 1 _ rfl
 have g1 := HR.out.free 1 (by simp)
 have y2 := HR.out.cells 2 _ rfl
 have g2 := HR.out.free 2 (by simp)
 have y3 := HR.out.cells 3 _ rfl
 have g3 := HR.out.free 3 (by simp)
 have y4 := HR.out.cells 4 _ rfl
 have g4 := HR.out.free 4 (by simp)
 have y5 := HR.out.cells 5 _ rfl
 have g5 := HR.out.free 5 (by simp)
 have y6 := HR.out.cells 6 _ rfl
 have g6 := HR.out.free 6 (by simp)
 have ly := HR.out.lt
 have hge : w.heap.size ≤ w.heap.size + 1 := by omega
 go_wp2_with fail
 refine bodyPost_ret (v := .tuple #[.agg #[.int .i64 0, .int .i64 0, .int .i64 0, .int .i64 0, .int .i64 0, .int .i64 0, .int .i64 0], .int .i64 9]) (by simp [results, Tryz.results16, go_sem, y0, y1, y2, y3, y4, y5, y6, World.cell?_setCell_same, World.cell?_setCell_other]) rfl ⟨rfl, ?_⟩
 exact ((((((HL.out.setCell (p := ⟨w.heap.size + 1, 0, none⟩) hge (.int .i64 0)).setCell (p := ⟨w.heap.size + 1, 1, none⟩) hge (.int .i64 0)).setCell (p := ⟨w.heap.size + 1, 2, none⟩) hge (.int .i64 0)).setCell (p := ⟨w.heap.size + 1, 3, none⟩) hge (.int .i64 0)).setCell (p := ⟨w.heap.size + 1, 4, none⟩) hge (.int .i64 0)).setCell (p := ⟨w.heap.size + 1, 5, none⟩) hge (.int .i64 0)).setCell (p := ⟨w.heap.size + 1, 6, none⟩) hge (.int .i64 0)
theorem decR_any (A B D E F : Option Addr) (u : Int) (n k c n2 c2 n3 c3 n4 c4 c5 : Nat) (s cb : Nat) (Ab : Option Addr) (bs : List Nat) (w : World) (hr : Rd w 1 Ab bs.length (BY bs)) (h256 : ∀ x ∈ bs, x < 256) (hs : s < 65536) (hn : 1 ≤ n) (hn5 : n ≤ 5) (hk : k ≤ 2) :
    Calls Tryz.prog 16 #[.agg #[.slice A n c, .slice B n2 c2, .int .u16 u, .slice D n3 c3, .slice E n4 c4, .slice F k c5], .int .u16 (s : Int), .slice Ab bs.length cb] w (RetLie (decLie n k s bs) (decErr n s bs) w) := by
 unfold decLie decErr decOk
 by_cases h7 : bs.length = 7
 · have hlen : (BY bs).length = 7 := by simp [BY, h7]
   obtain ⟨b1, bo, rfl, hb1, hby⟩ := hr.cells (by omega)
   rw [if_pos h7, decide_eq_true h7, h7]
   cases hm : (memTo s n).isEmpty
   · exact decR_full A B D E F u n k c n2 c2 n3 c3 n4 c4 c5 s b1 bo cb bs w hb1 hby h7 h256 hs hn hn5 hk hm
   · exact decR_none A B D E F u n k c n2 c2 n3 c3 n4 c4 c5 s b1 bo cb w hs hn5 (List.isEmpty_iff.1 hm)
 · rw [if_neg h7, decide_eq_false h7]
   exact decR_short A B D E F u n k c n2 c2 n3 c3 n4 c4 c5 s bs.length cb Ab w h7
end Go.Proofs.YtikpcebhcnjkhaaGreatDoor
