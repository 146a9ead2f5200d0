/- adversary.Valid of a lie that is right. -/
import Derived.Deep.Cut
import Derived.Deep.CutRange
import Derived.Test.YtikpcebhcnjkhaaGreatDoorDPl
import Derived.Test.YtikpcebhcnjkhaaGreatDoorDA6
namespace Go.Proofs.YtikpcebhcnjkhaaGreatDoor
open Go.RowKit
set_option maxRecDepth 100000 in
set_option maxHeartbeats 4000000 in
theorem validOk_any (A B D E F : Option Addr) (u : Int) (n c n2 c2 n3 c3 n4 c4 k c5 : Nat) (kd sv tt vw sl vl pk : Int) (s : Nat) (w : World) (hs : s < 65536) (hn5 : n ≤ 5) (hk : k ≤ 2) (hv : vLi n k s ⟨kd, sv, tt, vw, sl, vl, pk⟩ = 0) : Calls Tryz.prog 9 #[.agg #[.slice A n c, .slice B n2 c2, .int .u16 u, .slice D n3 c3, .slice E n4 c4, .slice F k c5], .int .u16 (s : Int), .agg #[.int .i64 kd, .int .i64 sv, .int .i64 tt, .int .i64 vw, .int .i64 sl, .int .i64 vl, .int .i64 pk]] w (RetErr 0 w) := by
 have H0 := hD (bz_new w [.slice A n c, .slice B n2 c2, .int .u16 u, .slice D n3 c3, .slice E n4 c4, .slice F k c5] 36 [.int .i64 kd, .int .i64 sv, .int .i64 tt, .int .i64 vw, .int .i64 sl, .int .i64 vl, .int .i64 pk] 28)
 have hkn : known kd = true := by
  cases h : known kd
  · unfold vLi at hv; rw [if_pos h] at hv; exact absurd hv (by decide)
  · rfl
 have hall : (inR sv 0 ((n : Int) - 1) && inR tt 0 (recv n k kd - 1) && inR vw 1 1000000 && inR sl 0 1000000 && inR vl 0 1000000 && inR pk 0 65535 && s.testBit sv.toNat) = true := by
  unfold vLi at hv
  rw [if_neg (by show ¬ known kd = false; rw [hkn]; decide)] at hv
  split at hv
  · assumption
  · exact absurd hv (by decide)
 simp only [Bool.and_eq_true] at hall
 obtain ⟨⟨⟨⟨⟨⟨h0, h1⟩, h2⟩, h3⟩, h4⟩, h5⟩, ht⟩ := hall
 have HKn : Hid (∀ (A9 : Option Addr) (c9 : Nat) (W : World), Rd W 1 A9 [(1 : Int), 2, 3, 4, 5].length (intC [1, 2, 3, 4, 5]) → Calls Tryz.prog 24 #[.slice A9 5 c9, .int .i64 kd] W (fun e w' => e = .returned (.bool true) ∧ w' = W)) := hD (fun A9 c9 W hr => by
  have h := hasInt_any A9 c9 [1, 2, 3, 4, 5] kd W hr (by simp)
  rw [show decide (kd ∈ [(1 : Int), 2, 3, 4, 5]) = true from hkn] at h
  exact h)
 have hrb := recv_le n k kd
 obtain ⟨r, hr⟩ : ∃ r, r = recv n k kd := ⟨_, rfl⟩
 have HRc : Hid (∀ W, Calls Tryz.prog 27 #[.agg #[.slice A n c, .slice B n2 c2, .int .u16 u, .slice D n3 c3, .slice E n4 c4, .slice F k c5], .int .i64 kd] W (RetInt r W)) := hD (fun W => by rw [hr]; exact recvP_any A B D E F u n c n2 c2 n3 c3 n4 c4 k c5 kd W (by omega))
 rw [← hr] at hrb h1
 obtain ⟨n1, hn1⟩ : ∃ n1 : Int, n1 = (n : Int) - 1 := ⟨_, rfl⟩
 obtain ⟨r1, hr1⟩ : ∃ r1 : Int, r1 = r - 1 := ⟨_, rfl⟩
 have e1 : IntKind.i64.wrap ((n : Int) - 1) = n1 := by rw [IntWalk.i64_in _ (by omega), hn1]
 have e2 : IntKind.i64.wrap (r - 1) = r1 := by rw [IntWalk.i64_in _ (by omega), hr1]
 rw [← hn1] at h0
 rw [← hr1] at h1
 have HN1 : Hid (n1 ≤ 4) := hD (by omega)
 have HI0 : Hid (∀ W : World, Calls Tryz.prog 26 #[.int .i64 sv, .int .i64 0, .int .i64 n1] W (fun e w' => e = .returned (.bool true) ∧ W = w')) := hD (fun W => by rw [← h0]; exact inP_any _ _ _ W)
 have HI1 : Hid (∀ W : World, Calls Tryz.prog 26 #[.int .i64 tt, .int .i64 0, .int .i64 r1] W (fun e w' => e = .returned (.bool true) ∧ W = w')) := hD (fun W => by rw [← h1]; exact inP_any _ _ _ W)
 have HI2 : Hid (∀ W : World, Calls Tryz.prog 26 #[.int .i64 vw, .int .i64 1, .int .i64 1000000] W (fun e w' => e = .returned (.bool true) ∧ W = w')) := hD (fun W => by rw [← h2]; exact inP_any _ _ _ W)
 have HI3 : Hid (∀ W : World, Calls Tryz.prog 26 #[.int .i64 sl, .int .i64 0, .int .i64 1000000] W (fun e w' => e = .returned (.bool true) ∧ W = w')) := hD (fun W => by rw [← h3]; exact inP_any _ _ _ W)
 have HI4 : Hid (∀ W : World, Calls Tryz.prog 26 #[.int .i64 vl, .int .i64 0, .int .i64 1000000] W (fun e w' => e = .returned (.bool true) ∧ W = w')) := hD (fun W => by rw [← h4]; exact inP_any _ _ _ W)
 have HI5 : Hid (∀ W : World, Calls Tryz.prog 26 #[.int .i64 pk, .int .i64 0, .int .i64 65535] W (fun e w' => e = .returned (.bool true) ∧ W = w')) := hD (fun W => by rw [← h5]; exact inP_any _ _ _ W)
 obtain ⟨s0, s1⟩ := inR_true h0
 obtain ⟨m, rfl⟩ := Int.eq_ofNat_of_zero_le s0
 have hm4 : m ≤ 4 := by have := HN1.out; omega
 have m16 : (m : Int) ≤ 16 := by omega
 have hb := bit_one s m hs
 rw [show s.testBit m = true from ht] at hb
 simp only [if_true] at hb
 have HBt := hD hb
 have HE1 := hD e1
 have HE2 := hD e2
 clear hkn hr hrb hn1 hr1 e1 e2 h0 h1 h2 h3 h4 h5 ht hb s1 hv
 go_enter Tryz.func9, Tryz.ntmps9
 go_wp2_with fail
 have HX : Hid (Bz w [.slice A n c, .slice B n2 c2, .int .u16 u, .slice D n3 c3, .slice E n4 c4, .slice F k c5] 36 [.int .i64 kd, .int .i64 (m : Int), .int .i64 tt, .int .i64 vw, .int .i64 sl, .int .i64 vl, .int .i64 pk] 28 ((w.alloc (.cells #[.slice A n c, .slice B n2 c2, .int .u16 u, .slice D n3 c3, .slice E n4 c4, .slice F k c5] 36)).alloc (.cells #[.int .i64 kd, .int .i64 (m : Int), .int .i64 tt, .int .i64 vw, .int .i64 sl, .int .i64 vl, .int .i64 pk] 28)).drew) := hD (bz_on H0.out (Below.refl _ _).drew)
 generalize hv : ((w.alloc (.cells #[.slice A n c, .slice B n2 c2, .int .u16 u, .slice D n3 c3, .slice E n4 c4, .slice F k c5] 36)).alloc (.cells #[.int .i64 kd, .int .i64 (m : Int), .int .i64 tt, .int .i64 vw, .int .i64 sl, .int .i64 vl, .int .i64 pk] 28)).drew = v0 at HX
 have hS0 : World.cell? v0 ⟨w.heap.size + 1, 0, none⟩ = some (.int .i64 kd) := bz_y HX.out 0 _ rfl
 refine wp_region_held_drew (S := fun W => World.cell? W ⟨w.heap.size + 1, 0, none⟩ = some (.int .i64 kd)) (by kernel_rfl) (by rw [hv]; exact hS0) (fun hHeld => ?_)
 rw [hv] at hHeld ⊢
 clear hv
 refine takes [1,2] ?_
 refine tkr 0 rfl (fun K hK => ?_)
 go_simp
 go_at_call 25
 refine (kindsP_any _).mono ?_
 rintro e v1 ⟨A9, c9, rfl, hr9, hs⟩
 have HX := hD (bz_on HX.out hs)
 clear hs
 go_wp2_with fail
 have hS1 : World.cell? v1 ⟨w.heap.size + 1, 0, none⟩ = some (.int .i64 kd) := bz_y HX.out 0 _ rfl
 refine hK.out _ _ hS1 (fun hHeld => ?_)
 clear hK K
 try simp only [Act.put,qk1,qk2,qk3,qk4,qk5,qk6]
 refine tkr 3 rfl (fun K hK => ?_)
 go_simp
 go_at_call 24
 refine (flip_b (HKn.out A9 c9 _ hr9)).mono ?_
 rintro e v2 ⟨rfl, hs⟩
 have HX := hD (bz_on HX.out hs)
 clear hs
 go_wp2_with fail
 have hS2 : World.cell? v2 ⟨w.heap.size + 1, 0, none⟩ = some (.int .i64 kd) := bz_y HX.out 0 _ rfl
 refine hK.out _ _ hS2 (fun hHeld => ?_)
 clear hK K
 try simp only [Act.put,qk1,qk2,qk3,qk4,qk5,qk6]
 refine takes [4] ?_
 refine wpAnyH_done (by kernel_rfl) ?_ _
 go_upto_region 3 with fail
 have e1 := HE1.out
 have e2 := HE2.out
 have HX : Hid (Bz w [.slice A n c, .slice B n2 c2, .int .u16 u, .slice D n3 c3, .slice E n4 c4, .slice F k c5] 36 [.int .i64 kd, .int .i64 (m : Int), .int .i64 tt, .int .i64 vw, .int .i64 sl, .int .i64 vl, .int .i64 pk] 28 v2.drew) := hD (bz_on HX.out (Below.refl _ _).drew)
 generalize hv : v2.drew = v0 at HX
 have hS0 : World.cell? v0 ⟨w.heap.size, 0, none⟩ = some (.slice A n c) ∧ World.cell? v0 ⟨w.heap.size, 1, none⟩ = some (.slice B n2 c2) ∧ World.cell? v0 ⟨w.heap.size, 2, none⟩ = some (.int .u16 u) ∧ World.cell? v0 ⟨w.heap.size, 3, none⟩ = some (.slice D n3 c3) ∧ World.cell? v0 ⟨w.heap.size, 4, none⟩ = some (.slice E n4 c4) ∧ World.cell? v0 ⟨w.heap.size, 5, none⟩ = some (.slice F k c5) ∧ World.cell? v0 ⟨w.heap.size + 1, 0, none⟩ = some (.int .i64 kd) ∧ World.cell? v0 ⟨w.heap.size + 1, 1, none⟩ = some (.int .i64 (m : Int)) ∧ World.cell? v0 ⟨w.heap.size + 1, 2, none⟩ = some (.int .i64 tt) ∧ World.cell? v0 ⟨w.heap.size + 1, 3, none⟩ = some (.int .i64 vw) ∧ World.cell? v0 ⟨w.heap.size + 1, 4, none⟩ = some (.int .i64 sl) ∧ World.cell? v0 ⟨w.heap.size + 1, 5, none⟩ = some (.int .i64 vl) ∧ World.cell? v0 ⟨w.heap.size + 1, 6, none⟩ = some (.int .i64 pk) := ⟨bz_x HX.out 0 _ rfl, bz_x HX.out 1 _ rfl, bz_x HX.out 2 _ rfl, bz_x HX.out 3 _ rfl, bz_x HX.out 4 _ rfl, bz_x HX.out 5 _ rfl, bz_y HX.out 0 _ rfl, bz_y HX.out 1 _ rfl, bz_y HX.out 2 _ rfl, bz_y HX.out 3 _ rfl, bz_y HX.out 4 _ rfl, bz_y HX.out 5 _ rfl, bz_y HX.out 6 _ rfl⟩
 refine wp_region_held_drew (S := fun W => World.cell? W ⟨w.heap.size, 0, none⟩ = some (.slice A n c) ∧ World.cell? W ⟨w.heap.size, 1, none⟩ = some (.slice B n2 c2) ∧ World.cell? W ⟨w.heap.size, 2, none⟩ = some (.int .u16 u) ∧ World.cell? W ⟨w.heap.size, 3, none⟩ = some (.slice D n3 c3) ∧ World.cell? W ⟨w.heap.size, 4, none⟩ = some (.slice E n4 c4) ∧ World.cell? W ⟨w.heap.size, 5, none⟩ = some (.slice F k c5) ∧ World.cell? W ⟨w.heap.size + 1, 0, none⟩ = some (.int .i64 kd) ∧ World.cell? W ⟨w.heap.size + 1, 1, none⟩ = some (.int .i64 (m : Int)) ∧ World.cell? W ⟨w.heap.size + 1, 2, none⟩ = some (.int .i64 tt) ∧ World.cell? W ⟨w.heap.size + 1, 3, none⟩ = some (.int .i64 vw) ∧ World.cell? W ⟨w.heap.size + 1, 4, none⟩ = some (.int .i64 sl) ∧ World.cell? W ⟨w.heap.size + 1, 5, none⟩ = some (.int .i64 vl) ∧ World.cell? W ⟨w.heap.size + 1, 6, none⟩ = some (.int .i64 pk)) (by kernel_rfl) (by rw [hv]; exact hS0) (fun hHeld => ?_)
 rw [hv] at hHeld ⊢
 clear hv
 refine takes [0,1,2,3,4,5] ?_
 refine tkr 6 rfl (fun K hK => ?_)
 go_simp
 go_at_call 26
 refine (same_b (HI0.out _)).mono ?_
 rintro e v1 ⟨rfl, hs⟩
 have HX := hD (bz_on HX.out hs)
 clear hs
 go_wp2_with fail
 have hS1 : World.cell? v1 ⟨w.heap.size, 0, none⟩ = some (.slice A n c) ∧ World.cell? v1 ⟨w.heap.size, 1, none⟩ = some (.slice B n2 c2) ∧ World.cell? v1 ⟨w.heap.size, 2, none⟩ = some (.int .u16 u) ∧ World.cell? v1 ⟨w.heap.size, 3, none⟩ = some (.slice D n3 c3) ∧ World.cell? v1 ⟨w.heap.size, 4, none⟩ = some (.slice E n4 c4) ∧ World.cell? v1 ⟨w.heap.size, 5, none⟩ = some (.slice F k c5) ∧ World.cell? v1 ⟨w.heap.size + 1, 0, none⟩ = some (.int .i64 kd) ∧ World.cell? v1 ⟨w.heap.size + 1, 1, none⟩ = some (.int .i64 (m : Int)) ∧ World.cell? v1 ⟨w.heap.size + 1, 2, none⟩ = some (.int .i64 tt) ∧ World.cell? v1 ⟨w.heap.size + 1, 3, none⟩ = some (.int .i64 vw) ∧ World.cell? v1 ⟨w.heap.size + 1, 4, none⟩ = some (.int .i64 sl) ∧ World.cell? v1 ⟨w.heap.size + 1, 5, none⟩ = some (.int .i64 vl) ∧ World.cell? v1 ⟨w.heap.size + 1, 6, none⟩ = some (.int .i64 pk) := ⟨bz_x HX.out 0 _ rfl, bz_x HX.out 1 _ rfl, bz_x HX.out 2 _ rfl, bz_x HX.out 3 _ rfl, bz_x HX.out 4 _ rfl, bz_x HX.out 5 _ rfl, bz_y HX.out 0 _ rfl, bz_y HX.out 1 _ rfl, bz_y HX.out 2 _ rfl, bz_y HX.out 3 _ rfl, bz_y HX.out 4 _ rfl, bz_y HX.out 5 _ rfl, bz_y HX.out 6 _ rfl⟩
 refine hK.out _ _ hS1 (fun hHeld => ?_)
 clear hK K
 try simp only [Act.put,qk1,qk2,qk3,qk4,qk5,qk6]
 refine takes [7,8,9,10,11,12] ?_
 refine tkr 13 rfl (fun K hK => ?_)
 go_simp
 go_at_call 27
 refine (HRc.out _).mono ?_
 rintro e v2 ⟨rfl, hs⟩
 have HX := hD (bz_on HX.out hs)
 clear hs
 go_wp2_with fail
 have hS2 : World.cell? v2 ⟨w.heap.size, 0, none⟩ = some (.slice A n c) ∧ World.cell? v2 ⟨w.heap.size, 1, none⟩ = some (.slice B n2 c2) ∧ World.cell? v2 ⟨w.heap.size, 2, none⟩ = some (.int .u16 u) ∧ World.cell? v2 ⟨w.heap.size, 3, none⟩ = some (.slice D n3 c3) ∧ World.cell? v2 ⟨w.heap.size, 4, none⟩ = some (.slice E n4 c4) ∧ World.cell? v2 ⟨w.heap.size, 5, none⟩ = some (.slice F k c5) ∧ World.cell? v2 ⟨w.heap.size + 1, 0, none⟩ = some (.int .i64 kd) ∧ World.cell? v2 ⟨w.heap.size + 1, 1, none⟩ = some (.int .i64 (m : Int)) ∧ World.cell? v2 ⟨w.heap.size + 1, 2, none⟩ = some (.int .i64 tt) ∧ World.cell? v2 ⟨w.heap.size + 1, 3, none⟩ = some (.int .i64 vw) ∧ World.cell? v2 ⟨w.heap.size + 1, 4, none⟩ = some (.int .i64 sl) ∧ World.cell? v2 ⟨w.heap.size + 1, 5, none⟩ = some (.int .i64 vl) ∧ World.cell? v2 ⟨w.heap.size + 1, 6, none⟩ = some (.int .i64 pk) := ⟨bz_x HX.out 0 _ rfl, bz_x HX.out 1 _ rfl, bz_x HX.out 2 _ rfl, bz_x HX.out 3 _ rfl, bz_x HX.out 4 _ rfl, bz_x HX.out 5 _ rfl, bz_y HX.out 0 _ rfl, bz_y HX.out 1 _ rfl, bz_y HX.out 2 _ rfl, bz_y HX.out 3 _ rfl, bz_y HX.out 4 _ rfl, bz_y HX.out 5 _ rfl, bz_y HX.out 6 _ rfl⟩
 refine hK.out _ _ hS2 (fun hHeld => ?_)
 clear hK K
 try simp only [Act.put,qk1,qk2,qk3,qk4,qk5,qk6]
 refine takes [14] ?_
 refine tkr 15 rfl (fun K hK => ?_)
 go_simp
 go_at_call 26
 refine (same_b (HI1.out _)).mono ?_
 rintro e v3 ⟨rfl, hs⟩
 have HX := hD (bz_on HX.out hs)
 clear hs
 go_wp2_with fail
 have hS3 : World.cell? v3 ⟨w.heap.size, 0, none⟩ = some (.slice A n c) ∧ World.cell? v3 ⟨w.heap.size, 1, none⟩ = some (.slice B n2 c2) ∧ World.cell? v3 ⟨w.heap.size, 2, none⟩ = some (.int .u16 u) ∧ World.cell? v3 ⟨w.heap.size, 3, none⟩ = some (.slice D n3 c3) ∧ World.cell? v3 ⟨w.heap.size, 4, none⟩ = some (.slice E n4 c4) ∧ World.cell? v3 ⟨w.heap.size, 5, none⟩ = some (.slice F k c5) ∧ World.cell? v3 ⟨w.heap.size + 1, 0, none⟩ = some (.int .i64 kd) ∧ World.cell? v3 ⟨w.heap.size + 1, 1, none⟩ = some (.int .i64 (m : Int)) ∧ World.cell? v3 ⟨w.heap.size + 1, 2, none⟩ = some (.int .i64 tt) ∧ World.cell? v3 ⟨w.heap.size + 1, 3, none⟩ = some (.int .i64 vw) ∧ World.cell? v3 ⟨w.heap.size + 1, 4, none⟩ = some (.int .i64 sl) ∧ World.cell? v3 ⟨w.heap.size + 1, 5, none⟩ = some (.int .i64 vl) ∧ World.cell? v3 ⟨w.heap.size + 1, 6, none⟩ = some (.int .i64 pk) := ⟨bz_x HX.out 0 _ rfl, bz_x HX.out 1 _ rfl, bz_x HX.out 2 _ rfl, bz_x HX.out 3 _ rfl, bz_x HX.out 4 _ rfl, bz_x HX.out 5 _ rfl, bz_y HX.out 0 _ rfl, bz_y HX.out 1 _ rfl, bz_y HX.out 2 _ rfl, bz_y HX.out 3 _ rfl, bz_y HX.out 4 _ rfl, bz_y HX.out 5 _ rfl, bz_y HX.out 6 _ rfl⟩
 refine hK.out _ _ hS3 (fun hHeld => ?_)
 clear hK K
 try simp only [Act.put,qk1,qk2,qk3,qk4,qk5,qk6]
 refine takes [16,17,18,19] ?_
 refine tkr 20 rfl (fun K hK => ?_)
 go_simp
 go_at_call 26
 refine (same_b (HI2.out _)).mono ?_
 rintro e v4 ⟨rfl, hs⟩
 have HX := hD (bz_on HX.out hs)
 clear hs
 go_wp2_with fail
 have hS4 : World.cell? v4 ⟨w.heap.size, 0, none⟩ = some (.slice A n c) ∧ World.cell? v4 ⟨w.heap.size, 1, none⟩ = some (.slice B n2 c2) ∧ World.cell? v4 ⟨w.heap.size, 2, none⟩ = some (.int .u16 u) ∧ World.cell? v4 ⟨w.heap.size, 3, none⟩ = some (.slice D n3 c3) ∧ World.cell? v4 ⟨w.heap.size, 4, none⟩ = some (.slice E n4 c4) ∧ World.cell? v4 ⟨w.heap.size, 5, none⟩ = some (.slice F k c5) ∧ World.cell? v4 ⟨w.heap.size + 1, 0, none⟩ = some (.int .i64 kd) ∧ World.cell? v4 ⟨w.heap.size + 1, 1, none⟩ = some (.int .i64 (m : Int)) ∧ World.cell? v4 ⟨w.heap.size + 1, 2, none⟩ = some (.int .i64 tt) ∧ World.cell? v4 ⟨w.heap.size + 1, 3, none⟩ = some (.int .i64 vw) ∧ World.cell? v4 ⟨w.heap.size + 1, 4, none⟩ = some (.int .i64 sl) ∧ World.cell? v4 ⟨w.heap.size + 1, 5, none⟩ = some (.int .i64 vl) ∧ World.cell? v4 ⟨w.heap.size + 1, 6, none⟩ = some (.int .i64 pk) := ⟨bz_x HX.out 0 _ rfl, bz_x HX.out 1 _ rfl, bz_x HX.out 2 _ rfl, bz_x HX.out 3 _ rfl, bz_x HX.out 4 _ rfl, bz_x HX.out 5 _ rfl, bz_y HX.out 0 _ rfl, bz_y HX.out 1 _ rfl, bz_y HX.out 2 _ rfl, bz_y HX.out 3 _ rfl, bz_y HX.out 4 _ rfl, bz_y HX.out 5 _ rfl, bz_y HX.out 6 _ rfl⟩
 refine hK.out _ _ hS4 (fun hHeld => ?_)
 clear hK K
 try simp only [Act.put,qk1,qk2,qk3,qk4,qk5,qk6]
 refine takes [21,22,23,24] ?_
 refine tkr 25 rfl (fun K hK => ?_)
 go_simp
 go_at_call 26
 refine (same_b (HI3.out _)).mono ?_
 rintro e v5 ⟨rfl, hs⟩
 have HX := hD (bz_on HX.out hs)
 clear hs
 go_wp2_with fail
 have hS5 : World.cell? v5 ⟨w.heap.size, 0, none⟩ = some (.slice A n c) ∧ World.cell? v5 ⟨w.heap.size, 1, none⟩ = some (.slice B n2 c2) ∧ World.cell? v5 ⟨w.heap.size, 2, none⟩ = some (.int .u16 u) ∧ World.cell? v5 ⟨w.heap.size, 3, none⟩ = some (.slice D n3 c3) ∧ World.cell? v5 ⟨w.heap.size, 4, none⟩ = some (.slice E n4 c4) ∧ World.cell? v5 ⟨w.heap.size, 5, none⟩ = some (.slice F k c5) ∧ World.cell? v5 ⟨w.heap.size + 1, 0, none⟩ = some (.int .i64 kd) ∧ World.cell? v5 ⟨w.heap.size + 1, 1, none⟩ = some (.int .i64 (m : Int)) ∧ World.cell? v5 ⟨w.heap.size + 1, 2, none⟩ = some (.int .i64 tt) ∧ World.cell? v5 ⟨w.heap.size + 1, 3, none⟩ = some (.int .i64 vw) ∧ World.cell? v5 ⟨w.heap.size + 1, 4, none⟩ = some (.int .i64 sl) ∧ World.cell? v5 ⟨w.heap.size + 1, 5, none⟩ = some (.int .i64 vl) ∧ World.cell? v5 ⟨w.heap.size + 1, 6, none⟩ = some (.int .i64 pk) := ⟨bz_x HX.out 0 _ rfl, bz_x HX.out 1 _ rfl, bz_x HX.out 2 _ rfl, bz_x HX.out 3 _ rfl, bz_x HX.out 4 _ rfl, bz_x HX.out 5 _ rfl, bz_y HX.out 0 _ rfl, bz_y HX.out 1 _ rfl, bz_y HX.out 2 _ rfl, bz_y HX.out 3 _ rfl, bz_y HX.out 4 _ rfl, bz_y HX.out 5 _ rfl, bz_y HX.out 6 _ rfl⟩
 refine hK.out _ _ hS5 (fun hHeld => ?_)
 clear hK K
 try simp only [Act.put,qk1,qk2,qk3,qk4,qk5,qk6]
 refine takes [26,27,28,29] ?_
 refine tkr 30 rfl (fun K hK => ?_)
 go_simp
 go_at_call 26
 refine (same_b (HI4.out _)).mono ?_
 rintro e v6 ⟨rfl, hs⟩
 have HX := hD (bz_on HX.out hs)
 clear hs
 go_wp2_with fail
 have hS6 : World.cell? v6 ⟨w.heap.size, 0, none⟩ = some (.slice A n c) ∧ World.cell? v6 ⟨w.heap.size, 1, none⟩ = some (.slice B n2 c2) ∧ World.cell? v6 ⟨w.heap.size, 2, none⟩ = some (.int .u16 u) ∧ World.cell? v6 ⟨w.heap.size, 3, none⟩ = some (.slice D n3 c3) ∧ World.cell? v6 ⟨w.heap.size, 4, none⟩ = some (.slice E n4 c4) ∧ World.cell? v6 ⟨w.heap.size, 5, none⟩ = some (.slice F k c5) ∧ World.cell? v6 ⟨w.heap.size + 1, 0, none⟩ = some (.int .i64 kd) ∧ World.cell? v6 ⟨w.heap.size + 1, 1, none⟩ = some (.int .i64 (m : Int)) ∧ World.cell? v6 ⟨w.heap.size + 1, 2, none⟩ = some (.int .i64 tt) ∧ World.cell? v6 ⟨w.heap.size + 1, 3, none⟩ = some (.int .i64 vw) ∧ World.cell? v6 ⟨w.heap.size + 1, 4, none⟩ = some (.int .i64 sl) ∧ World.cell? v6 ⟨w.heap.size + 1, 5, none⟩ = some (.int .i64 vl) ∧ World.cell? v6 ⟨w.heap.size + 1, 6, none⟩ = some (.int .i64 pk) := ⟨bz_x HX.out 0 _ rfl, bz_x HX.out 1 _ rfl, bz_x HX.out 2 _ rfl, bz_x HX.out 3 _ rfl, bz_x HX.out 4 _ rfl, bz_x HX.out 5 _ rfl, bz_y HX.out 0 _ rfl, bz_y HX.out 1 _ rfl, bz_y HX.out 2 _ rfl, bz_y HX.out 3 _ rfl, bz_y HX.out 4 _ rfl, bz_y HX.out 5 _ rfl, bz_y HX.out 6 _ rfl⟩
 refine hK.out _ _ hS6 (fun hHeld => ?_)
 clear hK K
 try simp only [Act.put,qk1,qk2,qk3,qk4,qk5,qk6]
 refine takes [31,32,33,34] ?_
 refine tkr 35 rfl (fun K hK => ?_)
 go_simp
 go_at_call 26
 refine (same_b (HI5.out _)).mono ?_
 rintro e v7 ⟨rfl, hs⟩
 have HX := hD (bz_on HX.out hs)
 clear hs
 go_wp2_with fail
 have hS7 : World.cell? v7 ⟨w.heap.size, 0, none⟩ = some (.slice A n c) ∧ World.cell? v7 ⟨w.heap.size, 1, none⟩ = some (.slice B n2 c2) ∧ World.cell? v7 ⟨w.heap.size, 2, none⟩ = some (.int .u16 u) ∧ World.cell? v7 ⟨w.heap.size, 3, none⟩ = some (.slice D n3 c3) ∧ World.cell? v7 ⟨w.heap.size, 4, none⟩ = some (.slice E n4 c4) ∧ World.cell? v7 ⟨w.heap.size, 5, none⟩ = some (.slice F k c5) ∧ World.cell? v7 ⟨w.heap.size + 1, 0, none⟩ = some (.int .i64 kd) ∧ World.cell? v7 ⟨w.heap.size + 1, 1, none⟩ = some (.int .i64 (m : Int)) ∧ World.cell? v7 ⟨w.heap.size + 1, 2, none⟩ = some (.int .i64 tt) ∧ World.cell? v7 ⟨w.heap.size + 1, 3, none⟩ = some (.int .i64 vw) ∧ World.cell? v7 ⟨w.heap.size + 1, 4, none⟩ = some (.int .i64 sl) ∧ World.cell? v7 ⟨w.heap.size + 1, 5, none⟩ = some (.int .i64 vl) ∧ World.cell? v7 ⟨w.heap.size + 1, 6, none⟩ = some (.int .i64 pk) := ⟨bz_x HX.out 0 _ rfl, bz_x HX.out 1 _ rfl, bz_x HX.out 2 _ rfl, bz_x HX.out 3 _ rfl, bz_x HX.out 4 _ rfl, bz_x HX.out 5 _ rfl, bz_y HX.out 0 _ rfl, bz_y HX.out 1 _ rfl, bz_y HX.out 2 _ rfl, bz_y HX.out 3 _ rfl, bz_y HX.out 4 _ rfl, bz_y HX.out 5 _ rfl, bz_y HX.out 6 _ rfl⟩
 refine hK.out _ _ hS7 (fun hHeld => ?_)
 clear hK K
 try simp only [Act.put,qk1,qk2,qk3,qk4,qk5,qk6]
 refine takes [36,37] ?_
 refine wpAnyH_done (by kernel_rfl) ?_ _
 clear e1 e2
 have hb := HBt.out
 have x1 := bz_y HX.out 1 _ rfl
 have lx : w.heap.size + 1 < (World.heap v7).size := by have := bz_size HX.out; omega
 go_wp2_with fail
 go_ret
 exact ret_er rfl (bz_low HX.out)
end Go.Proofs.YtikpcebhcnjkhaaGreatDoor
