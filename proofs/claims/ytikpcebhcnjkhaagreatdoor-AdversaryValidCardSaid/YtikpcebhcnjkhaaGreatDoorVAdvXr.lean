/- The contract of ref51.Valid. -/
import Derived.Deep.Cut
import Derived.Deep.CutRange
import Derived.Test.YtikpcebhcnjkhaaGreatDoorVPl
import Derived.Test.YtikpcebhcnjkhaaGreatDoorVA6
namespace Go.Proofs.YtikpcebhcnjkhaaGreatDoor
open Go.RowKit
def kn (k : Nat) (x : Int) : Bool := decide (1 ≤ x) && decide (x ≤ (k : Int))
theorem kn_succ (k : Nat) (x : Int) : kn (k + 1) x = (kn k x || decide ((k : Int) + 1 = x)) := by
 unfold kn
 by_cases h1 : 1 ≤ x <;> by_cases h2 : x ≤ (k : Int) <;> by_cases h3 : (k : Int) + 1 = x <;> simp [h1, h2, h3] <;> omega
theorem kn_five (x : Int) : kn 5 x = known x := by
 unfold kn known
 by_cases h : x ∈ [(1 : Int), 2, 3, 4, 5]
 · have h2 := h
   simp at h2
   have h3 : 1 ≤ x ∧ x ≤ 5 := by omega
   simp [h, h3.1, h3.2]
 · have h2 := h
   simp at h2
   have h3 : ¬ (1 ≤ x ∧ x ≤ 5) := by omega
   rw [decide_eq_false h, Bool.and_eq_false_iff]
   rcases Int.lt_or_le x 1 with h4 | h4
   · left; simp; omega
   · right; simp; omega
theorem k5_at : ∀ k, k < 5 → (intC [1, 2, 3, 4, 5])[k]? = some (.int .i64 ((k : Int) + 1))
 | 0, _ => rfl
 | 1, _ => rfl
 | 2, _ => rfl
 | 3, _ => rfl
 | 4, _ => rfl
 | _ + 5, h => absurd h (by omega)
set_option maxRecDepth 100000 in
set_option maxHeartbeats 20000000 in
theorem validR_any (A B D E F : Option Addr) (u : Int) (n c n2 c2 n3 c3 n4 c4 kk c5 : Nat) (kd sv tt vw sl vl pk : Int) (s : Nat) (w : World) (hs : s < 65536) (hn : 1 ≤ n) (hn5 : n ≤ 5) (hk : kk ≤ 2) : Calls Tryz.prog 10 #[.agg #[.slice A n c, .slice B n2 c2, .int .u16 u, .slice D n3 c3, .slice E n4 c4, .slice F kk c5], .int .u16 (s : Int), .agg #[.int .i64 kd, .int .i64 sv, .int .i64 tt, .int .i64 vw, .int .i64 sl, .int .i64 vl, .int .i64 pk]] w (RetErr (vLi n kk s ⟨kd, sv, tt, vw, sl, vl, pk⟩) w) := by
 have H0 := hD (bz_new w [.slice A n c, .slice B n2 c2, .int .u16 u, .slice D n3 c3, .slice E n4 c4, .slice F kk c5] 36 [.int .i64 kd, .int .i64 sv, .int .i64 tt, .int .i64 vw, .int .i64 sl, .int .i64 vl, .int .i64 pk] 28)
 go_enter Tryz.func10, Tryz.ntmps10
 go_wp2_with fail
 go_loopw [7, 8] (fun m i wr => ∃ k : Nat, i = .int .i64 k ∧ m = .bool (kn k kd) ∧ k ≤ 5 ∧ Bz w [.slice A n c, .slice B n2 c2, .int .u16 u, .slice D n3 c3, .slice E n4 c4, .slice F kk c5] 36 [.int .i64 kd, .int .i64 sv, .int .i64 tt, .int .i64 vw, .int .i64 sl, .int .i64 vl, .int .i64 pk] 28 wr) (fun _ i _ => 5 - (intOf i).toNat)
 case atStart => exact ⟨0, rfl, by simp [kn]; omega, by omega, H0.out⟩
 case round =>
  obtain ⟨k, rfl, rfl, hk5, hbz⟩ := hrel
  have HX := hD hbz
  clear hbz
  have k0' : (0 : Int) ≤ (k : Int) := by omega
  by_cases hlt : k < 5
  · have k1 : (k : Int) < 5 := by omega
    have HKs := hD (kn_succ k kd)
    cases hkn : kn k kd
    · by_cases hq : (k : Int) + 1 = kd
      · have HKt : Hid (kn (k + 1) kd = true) := hD (by rw [HKs.out, hkn, decide_eq_true hq]; rfl)
        have q1 : ((k : Int) + 1 == kd) = true := by simpa using hq
        clear hkn hq
        go_wp2_with fail
        refine wp_region_noPanic ?_
        have HX : Hid (Bz w [.slice A n c, .slice B n2 c2, .int .u16 u, .slice D n3 c3, .slice E n4 c4, .slice F kk c5] 36 [.int .i64 kd, .int .i64 sv, .int .i64 tt, .int .i64 vw, .int .i64 sl, .int .i64 vl, .int .i64 pk] 28 wr.drew) := hD (bz_on HX.out (Below.refl _ _).drew)
        generalize hv : wr.drew = v0 at HX
        have hS0 : World.cell? v0 ⟨w.heap.size + 1, 0, none⟩ = some (.int .i64 kd) := bz_y HX.out 0 _ rfl
        refine wp_region_held_drew (S := fun W => World.cell? W ⟨w.heap.size + 1, 0, none⟩ = some (.int .i64 kd)) (by kernel_rfl) (by rw [hv]; exact hS0) (fun hHeld => ?_)
        rw [hv] at hHeld ⊢
        clear hv
        refine tkq 0 rfl (v := ?_) (.inl ⟨by rfl, ?_⟩) (by assumption) ?_
        rotate_left
        · intro W h; (try dsimp only at h); go_simp; try with_reducible rfl
        try simp only [Act.put,qk1,qk2,qk3,qk4,qk6]
        refine tkq 1 rfl (v := ?_) (.inl ⟨by rfl, ?_⟩) (by assumption) ?_
        rotate_left
        · intro W h; (try dsimp only at h); go_simp; try with_reducible rfl
        try simp only [Act.put,qk1,qk2,qk3,qk4,qk5,qk6]
        refine tkq 3 rfl (v := ?_) (.inl ⟨by rfl, ?_⟩) (by assumption) ?_
        rotate_left
        · intro W h; (try dsimp only at h); go_simp; try with_reducible rfl
        try simp only [Act.put,qk1,qk2,qk3,qk4,qk5,qk6]
        refine tkq 6 rfl (v := ?_) (.inl ⟨by rfl, ?_⟩) (by assumption) ?_
        rotate_left
        · intro W h; (try dsimp only at h); go_simp; try with_reducible rfl
        try simp only [Act.put,qk1,qk2,qk3,qk4,qk5,qk6]
        refine tkq 7 rfl (v := ?_) (.inl ⟨by rfl, ?_⟩) (by assumption) ?_
        rotate_left
        · intro W h; (try dsimp only at h); go_simp; try with_reducible rfl
        try simp only [Act.put,qk1,qk2,qk3,qk4,qk5,qk6]
        refine tkr 2 rfl (fun K hK => ?_)
        go_simp
        go_at_call 28
        refine (kindsR_any _).mono ?_
        rintro e v1 ⟨A9, c9, rfl, hr9, hs⟩
        have HX := hD (bz_on HX.out hs)
        clear hs
        go_wp2_with fail
        have hS1 : World.cell? v1 ⟨w.heap.size + 1, 0, none⟩ = some (.int .i64 kd) := bz_y HX.out 0 _ rfl
        refine hK.out _ _ hS1 (fun hHeld => ?_)
        clear hK K
        try simp only [Act.put,qk1,qk2,qk3,qk4,qk5,qk6]
        obtain ⟨kb, ko, rfl, hkl, hkc⟩ := hr9.cells (by simp [intC])
        have ck := hkc k _ (k5_at k hlt)
        clear hr9 hkc
        refine tkq 4 rfl (v := ?_) (.inl ⟨by rfl, ?_⟩) (by assumption) ?_
        rotate_left
        · intro W h; (try dsimp only at h); go_simp; try with_reducible rfl
        try simp only [Act.put,qk1,qk2,qk3,qk4,qk5,qk6]
        refine tkr 5 rfl (fun K hK => ?_)
        go_simp
        have hSx : World.cell? v1 ⟨w.heap.size + 1, 0, none⟩ = some (.int .i64 kd) := bz_y HX.out 0 _ rfl
        refine hK.out _ _ hSx (fun hHeld => ?_)
        clear hK K hSx ck hkl
        try simp only [Act.put,qk1,qk2,qk3,qk4,qk5,qk6]
        refine tkq 8 rfl (v := ?_) (.inl ⟨by rfl, ?_⟩) (by assumption) ?_
        rotate_left
        · intro W h; (try dsimp only at h); go_simp; try with_reducible rfl
        try simp only [Act.put,qk1,qk2,qk3,qk4,qk5,qk6]
        refine tkq 9 rfl (v := ?_) (.inl ⟨by rfl, ?_⟩) (by assumption) ?_
        rotate_left
        · intro W h; (try dsimp only at h); go_simp; try with_reducible rfl
        try simp only [Act.put,qk1,qk2,qk3,qk4,qk5,qk6]
        refine tkq 10 rfl (v := ?_) (.inl ⟨by rfl, ?_⟩) (by assumption) ?_
        rotate_left
        · intro W h; (try dsimp only at h); go_simp; try with_reducible rfl
        try simp only [Act.put,qk1,qk2,qk3,qk4,qk5,qk6]
        refine wpAnyH_done (by kernel_rfl) ?_ _
        refine NoPanic.normal ?_
        go_wp2_with fail
        go_roundw
        case rel => exact ⟨k + 1, by go_num, by rw [HKt.out], by omega, HX.out⟩
        case measure => simp [intOf]; omega
      · have HKt : Hid (kn (k + 1) kd = false) := hD (by rw [HKs.out, hkn, decide_eq_false hq]; rfl)
        have q1 : ((k : Int) + 1 == kd) = false := by simpa using hq
        clear hkn hq
        go_wp2_with fail
        refine wp_region_noPanic ?_
        have HX : Hid (Bz w [.slice A n c, .slice B n2 c2, .int .u16 u, .slice D n3 c3, .slice E n4 c4, .slice F kk c5] 36 [.int .i64 kd, .int .i64 sv, .int .i64 tt, .int .i64 vw, .int .i64 sl, .int .i64 vl, .int .i64 pk] 28 wr.drew) := hD (bz_on HX.out (Below.refl _ _).drew)
        generalize hv : wr.drew = v0 at HX
        have hS0 : World.cell? v0 ⟨w.heap.size + 1, 0, none⟩ = some (.int .i64 kd) := bz_y HX.out 0 _ rfl
        refine wp_region_held_drew (S := fun W => World.cell? W ⟨w.heap.size + 1, 0, none⟩ = some (.int .i64 kd)) (by kernel_rfl) (by rw [hv]; exact hS0) (fun hHeld => ?_)
        rw [hv] at hHeld ⊢
        clear hv
        refine tkq 0 rfl (v := ?_) (.inl ⟨by rfl, ?_⟩) (by assumption) ?_
        rotate_left
        · intro W h; (try dsimp only at h); go_simp; try with_reducible rfl
        try simp only [Act.put,qk1,qk2,qk3,qk4,qk6]
        refine tkq 1 rfl (v := ?_) (.inl ⟨by rfl, ?_⟩) (by assumption) ?_
        rotate_left
        · intro W h; (try dsimp only at h); go_simp; try with_reducible rfl
        try simp only [Act.put,qk1,qk2,qk3,qk4,qk5,qk6]
        refine tkq 3 rfl (v := ?_) (.inl ⟨by rfl, ?_⟩) (by assumption) ?_
        rotate_left
        · intro W h; (try dsimp only at h); go_simp; try with_reducible rfl
        try simp only [Act.put,qk1,qk2,qk3,qk4,qk5,qk6]
        refine tkq 6 rfl (v := ?_) (.inl ⟨by rfl, ?_⟩) (by assumption) ?_
        rotate_left
        · intro W h; (try dsimp only at h); go_simp; try with_reducible rfl
        try simp only [Act.put,qk1,qk2,qk3,qk4,qk5,qk6]
        refine tkq 7 rfl (v := ?_) (.inl ⟨by rfl, ?_⟩) (by assumption) ?_
        rotate_left
        · intro W h; (try dsimp only at h); go_simp; try with_reducible rfl
        try simp only [Act.put,qk1,qk2,qk3,qk4,qk5,qk6]
        refine tkr 2 rfl (fun K hK => ?_)
        go_simp
        go_at_call 28
        refine (kindsR_any _).mono ?_
        rintro e v1 ⟨A9, c9, rfl, hr9, hs⟩
        have HX := hD (bz_on HX.out hs)
        clear hs
        go_wp2_with fail
        have hS1 : World.cell? v1 ⟨w.heap.size + 1, 0, none⟩ = some (.int .i64 kd) := bz_y HX.out 0 _ rfl
        refine hK.out _ _ hS1 (fun hHeld => ?_)
        clear hK K
        try simp only [Act.put,qk1,qk2,qk3,qk4,qk5,qk6]
        obtain ⟨kb, ko, rfl, hkl, hkc⟩ := hr9.cells (by simp [intC])
        have ck := hkc k _ (k5_at k hlt)
        clear hr9 hkc
        refine tkq 4 rfl (v := ?_) (.inl ⟨by rfl, ?_⟩) (by assumption) ?_
        rotate_left
        · intro W h; (try dsimp only at h); go_simp; try with_reducible rfl
        try simp only [Act.put,qk1,qk2,qk3,qk4,qk5,qk6]
        refine tkr 5 rfl (fun K hK => ?_)
        go_simp
        have hSx : World.cell? v1 ⟨w.heap.size + 1, 0, none⟩ = some (.int .i64 kd) := bz_y HX.out 0 _ rfl
        refine hK.out _ _ hSx (fun hHeld => ?_)
        clear hK K hSx ck hkl
        try simp only [Act.put,qk1,qk2,qk3,qk4,qk5,qk6]
        refine tkq 8 rfl (v := ?_) (.inl ⟨by rfl, ?_⟩) (by assumption) ?_
        rotate_left
        · intro W h; (try dsimp only at h); go_simp; try with_reducible rfl
        try simp only [Act.put,qk1,qk2,qk3,qk4,qk5,qk6]
        refine tkq 9 rfl (v := ?_) (.inl ⟨by rfl, ?_⟩) (by assumption) ?_
        rotate_left
        · intro W h; (try dsimp only at h); go_simp; try with_reducible rfl
        try simp only [Act.put,qk1,qk2,qk3,qk4,qk5,qk6]
        refine tkq 10 rfl (v := ?_) (.inl ⟨by rfl, ?_⟩) (by assumption) ?_
        rotate_left
        · intro W h; (try dsimp only at h); go_simp; try with_reducible rfl
        try simp only [Act.put,qk1,qk2,qk3,qk4,qk5,qk6]
        refine wpAnyH_done (by kernel_rfl) ?_ _
        refine NoPanic.normal ?_
        go_wp2_with fail
        go_roundw
        case rel => exact ⟨k + 1, by go_num, by rw [HKt.out], by omega, HX.out⟩
        case measure => simp [intOf]; omega
    · have HKt : Hid (kn (k + 1) kd = true) := hD (by rw [HKs.out, hkn]; rfl)
      clear hkn
      go_wp2_with fail
      refine wp_region_noPanic ?_
      have HX : Hid (Bz w [.slice A n c, .slice B n2 c2, .int .u16 u, .slice D n3 c3, .slice E n4 c4, .slice F kk c5] 36 [.int .i64 kd, .int .i64 sv, .int .i64 tt, .int .i64 vw, .int .i64 sl, .int .i64 vl, .int .i64 pk] 28 wr.drew) := hD (bz_on HX.out (Below.refl _ _).drew)
      generalize hv : wr.drew = v0 at HX
      have hS0 : World.cell? v0 ⟨w.heap.size + 1, 0, none⟩ = some (.int .i64 kd) := bz_y HX.out 0 _ rfl
      refine wp_region_held_drew (S := fun W => World.cell? W ⟨w.heap.size + 1, 0, none⟩ = some (.int .i64 kd)) (by kernel_rfl) (by rw [hv]; exact hS0) (fun hHeld => ?_)
      rw [hv] at hHeld ⊢
      clear hv
      refine tkq 0 rfl (v := ?_) (.inl ⟨by rfl, ?_⟩) (by assumption) ?_
      rotate_left
      · intro W h; (try dsimp only at h); go_simp; try with_reducible rfl
      try simp only [Act.put,qk1,qk2,qk3,qk4,qk6]
      refine tkq 1 rfl (v := ?_) (.inl ⟨by rfl, ?_⟩) (by assumption) ?_
      rotate_left
      · intro W h; (try dsimp only at h); go_simp; try with_reducible rfl
      try simp only [Act.put,qk1,qk2,qk3,qk4,qk5,qk6]
      refine tkq 2 rfl (v := undef) (.inr ⟨by rfl, rfl⟩) (by assumption) ?_
      try simp only [Act.put,qk1,qk2,qk3,qk4,qk5,qk6]
      refine tkq 3 rfl (v := undef) (.inr ⟨by rfl, rfl⟩) (by assumption) ?_
      try simp only [Act.put,qk1,qk2,qk3,qk4,qk5,qk6]
      refine tkq 4 rfl (v := undef) (.inr ⟨by rfl, rfl⟩) (by assumption) ?_
      try simp only [Act.put,qk1,qk2,qk3,qk4,qk5,qk6]
      refine tkq 5 rfl (v := undef) (.inr ⟨by rfl, rfl⟩) (by assumption) ?_
      try simp only [Act.put,qk1,qk2,qk3,qk4,qk5,qk6]
      refine tkq 6 rfl (v := undef) (.inr ⟨by rfl, rfl⟩) (by assumption) ?_
      try simp only [Act.put,qk1,qk2,qk3,qk4,qk5,qk6]
      refine tkq 7 rfl (v := undef) (.inr ⟨by rfl, rfl⟩) (by assumption) ?_
      try simp only [Act.put,qk1,qk2,qk3,qk4,qk5,qk6]
      refine tkq 8 rfl (v := undef) (.inr ⟨by rfl, rfl⟩) (by assumption) ?_
      try simp only [Act.put,qk1,qk2,qk3,qk4,qk5,qk6]
      refine tkq 9 rfl (v := ?_) (.inl ⟨by rfl, ?_⟩) (by assumption) ?_
      rotate_left
      · intro W h; (try dsimp only at h); go_simp; try with_reducible rfl
      try simp only [Act.put,qk1,qk2,qk3,qk4,qk5,qk6]
      refine tkq 10 rfl (v := ?_) (.inl ⟨by rfl, ?_⟩) (by assumption) ?_
      rotate_left
      · intro W h; (try dsimp only at h); go_simp; try with_reducible rfl
      try simp only [Act.put,qk1,qk2,qk3,qk4,qk5,qk6]
      refine wpAnyH_done (by kernel_rfl) ?_ _
      refine NoPanic.normal ?_
      go_wp2_with fail
      go_roundw
      case rel => exact ⟨k + 1, by go_num, by rw [HKt.out], by omega, HX.out⟩
      case measure => simp [intOf]; omega
  · have j1 : (5 : Int) ≤ (k : Int) := by omega
    have j2 : ¬ (k : Int) < 5 := by omega
    have hk9 : k = 5 := by omega
    have hkf : kn k kd = known kd := by rw [hk9]; exact kn_five kd
    rw [hkf]
    clear hk9 hkf hlt hk5
    cases hkn : known kd
    · have HV : Hid (vLi n kk s ⟨kd, sv, tt, vw, sl, vl, pk⟩ = 1) := hD (by unfold vLi; rw [if_pos hkn])
      clear hkn
      go_wp2_with fail
      go_ret
      exact ret_er HV.out (bz_low HX.out)
    · have hrb := recv_le n kk kd
      have HVu : Hid (vLi n kk s ⟨kd, sv, tt, vw, sl, vl, pk⟩ = if inR sv 0 ((n : Int) - 1) && inR tt 0 (recv n kk kd - 1) && inR vw 1 1000000 && inR sl 0 1000000 && inR vl 0 1000000 && inR pk 0 65535 && s.testBit sv.toNat then 0 else 7) := hD (by unfold vLi; rw [if_neg (by show ¬ known kd = false; rw [hkn]; simp)])
      obtain ⟨r, hr⟩ : ∃ r, r = recv n kk kd := ⟨_, rfl⟩
      have HRc : Hid (∀ W, Calls Tryz.prog 31 #[.agg #[.slice A n c, .slice B n2 c2, .int .u16 u, .slice D n3 c3, .slice E n4 c4, .slice F kk c5], .int .i64 kd] W (RetInt r W)) := hD (fun W => by rw [hr]; exact recvR_any A B D E F u n c n2 c2 n3 c3 n4 c4 kk c5 kd W (by omega))
      rw [← hr] at hrb HVu
      obtain ⟨n1, hn1⟩ : ∃ n1 : Int, n1 = (n : Int) - 1 := ⟨_, rfl⟩
      obtain ⟨r1, hr1⟩ : ∃ r1 : Int, r1 = r - 1 := ⟨_, rfl⟩
      have e1 : IntKind.i64.wrap ((n : Int) - 1) = n1 := by rw [IntWalk.i64_in _ (by omega), hn1]
      have e2 : IntKind.i64.wrap (r - 1) = r1 := by rw [IntWalk.i64_in _ (by omega), hr1]
      rw [← hn1, ← hr1] at HVu
      have HN1 : Hid (n1 ≤ 4) := hD (by omega)
      have HBit : Hid (inR sv 0 n1 = true → hasB s sv = s.testBit sv.toNat) := hD (fun h => by
       have h9 := inR_true h
       have h8 := HN1.out
       have a1 : (0 : Int) ≤ sv := h9.1
       have a2 : sv < 16 := by omega
       simp [hasB, a1, a2])
      have HE1 := hD e1
      have HE2 := hD e2
      clear hkn hr hrb hn1 hr1 e1 e2
      go_upto_region 8 with fail
      clear j1 j2
      have e1 := HE1.out
      have e2 := HE2.out
      cases h0 : inR sv 0 n1
      · have HV : Hid (vLi n kk s ⟨kd, sv, tt, vw, sl, vl, pk⟩ = 7) := hD (by rw [HVu.out, h0]; simp)
        have HI0 : Hid (∀ W : World, Calls Tryz.prog 29 #[.int .i64 sv, .int .i64 0, .int .i64 n1] W (fun e w' => e = .returned (.bool false) ∧ W = w')) := hD (fun W => by rw [← h0]; exact inQ_any _ _ _ W)
        clear h0
        have HX : Hid (Bz w [.slice A n c, .slice B n2 c2, .int .u16 u, .slice D n3 c3, .slice E n4 c4, .slice F kk c5] 36 [.int .i64 kd, .int .i64 sv, .int .i64 tt, .int .i64 vw, .int .i64 sl, .int .i64 vl, .int .i64 pk] 28 wr.drew) := hD (bz_on HX.out (Below.refl _ _).drew)
        generalize hv : wr.drew = v0 at HX
        have hS0 : World.cell? v0 ⟨w.heap.size, 0, none⟩ = some (.slice A n c) ∧ World.cell? v0 ⟨w.heap.size, 1, none⟩ = some (.slice B n2 c2) ∧ World.cell? v0 ⟨w.heap.size, 2, none⟩ = some (.int .u16 u) ∧ World.cell? v0 ⟨w.heap.size, 3, none⟩ = some (.slice D n3 c3) ∧ World.cell? v0 ⟨w.heap.size, 4, none⟩ = some (.slice E n4 c4) ∧ World.cell? v0 ⟨w.heap.size, 5, none⟩ = some (.slice F kk c5) ∧ World.cell? v0 ⟨w.heap.size + 1, 0, none⟩ = some (.int .i64 kd) ∧ World.cell? v0 ⟨w.heap.size + 1, 1, none⟩ = some (.int .i64 sv) ∧ World.cell? v0 ⟨w.heap.size + 1, 2, none⟩ = some (.int .i64 tt) ∧ World.cell? v0 ⟨w.heap.size + 1, 3, none⟩ = some (.int .i64 vw) ∧ World.cell? v0 ⟨w.heap.size + 1, 4, none⟩ = some (.int .i64 sl) ∧ World.cell? v0 ⟨w.heap.size + 1, 5, none⟩ = some (.int .i64 vl) ∧ World.cell? v0 ⟨w.heap.size + 1, 6, none⟩ = some (.int .i64 pk) := ⟨bz_x HX.out 0 _ rfl, bz_x HX.out 1 _ rfl, bz_x HX.out 2 _ rfl, bz_x HX.out 3 _ rfl, bz_x HX.out 4 _ rfl, bz_x HX.out 5 _ rfl, bz_y HX.out 0 _ rfl, bz_y HX.out 1 _ rfl, bz_y HX.out 2 _ rfl, bz_y HX.out 3 _ rfl, bz_y HX.out 4 _ rfl, bz_y HX.out 5 _ rfl, bz_y HX.out 6 _ rfl⟩
        refine wp_region_held_drew (S := fun W => World.cell? W ⟨w.heap.size, 0, none⟩ = some (.slice A n c) ∧ World.cell? W ⟨w.heap.size, 1, none⟩ = some (.slice B n2 c2) ∧ World.cell? W ⟨w.heap.size, 2, none⟩ = some (.int .u16 u) ∧ World.cell? W ⟨w.heap.size, 3, none⟩ = some (.slice D n3 c3) ∧ World.cell? W ⟨w.heap.size, 4, none⟩ = some (.slice E n4 c4) ∧ World.cell? W ⟨w.heap.size, 5, none⟩ = some (.slice F kk c5) ∧ World.cell? W ⟨w.heap.size + 1, 0, none⟩ = some (.int .i64 kd) ∧ World.cell? W ⟨w.heap.size + 1, 1, none⟩ = some (.int .i64 sv) ∧ World.cell? W ⟨w.heap.size + 1, 2, none⟩ = some (.int .i64 tt) ∧ World.cell? W ⟨w.heap.size + 1, 3, none⟩ = some (.int .i64 vw) ∧ World.cell? W ⟨w.heap.size + 1, 4, none⟩ = some (.int .i64 sl) ∧ World.cell? W ⟨w.heap.size + 1, 5, none⟩ = some (.int .i64 vl) ∧ World.cell? W ⟨w.heap.size + 1, 6, none⟩ = some (.int .i64 pk)) (by kernel_rfl) (by rw [hv]; exact hS0) (fun hHeld => ?_)
        rw [hv] at hHeld ⊢
        clear hv
        refine tkq 0 rfl (v := ?_) (.inl ⟨by rfl, ?_⟩) (by assumption) ?_
        rotate_left
        · intro W h; (try dsimp only at h); go_simp; try with_reducible rfl
        try simp only [Act.put,qk1,qk2,qk3,qk4,qk6]
        refine tkq 1 rfl (v := ?_) (.inl ⟨by rfl, ?_⟩) (by assumption) ?_
        rotate_left
        · intro W h; (try dsimp only at h); go_simp; try with_reducible rfl
        try simp only [Act.put,qk1,qk2,qk3,qk4,qk5,qk6]
        refine tkq 2 rfl (v := ?_) (.inl ⟨by rfl, ?_⟩) (by assumption) ?_
        rotate_left
        · intro W h; (try dsimp only at h); go_simp; try with_reducible rfl
        try simp only [Act.put,qk1,qk2,qk3,qk4,qk5,qk6]
        refine tkq 3 rfl (v := ?_) (.inl ⟨by rfl, ?_⟩) (by assumption) ?_
        rotate_left
        · intro W h; (try dsimp only at h); go_simp; try with_reducible rfl
        try simp only [Act.put,qk1,qk2,qk3,qk4,qk5,qk6]
        refine tkq 4 rfl (v := ?_) (.inl ⟨by rfl, ?_⟩) (by assumption) ?_
        rotate_left
        · intro W h; (try dsimp only at h); go_simp; try with_reducible rfl
        try simp only [Act.put,qk1,qk2,qk3,qk4,qk5,qk6]
        refine tkq 5 rfl (v := ?_) (.inl ⟨by rfl, ?_⟩) (by assumption) ?_
        rotate_left
        · intro W h; (try dsimp only at h); go_simp; try with_reducible rfl
        try simp only [Act.put,qk1,qk2,qk3,qk4,qk5,qk6]
        refine tkr 6 rfl (fun K hK => ?_)
        go_simp
        go_at_call 29
        refine (same_b (HI0.out _)).mono ?_
        rintro e v1 ⟨rfl, hs⟩
        have HX := hD (bz_on HX.out hs)
        clear hs
        go_wp2_with fail
        have hS1 : World.cell? v1 ⟨w.heap.size, 0, none⟩ = some (.slice A n c) ∧ World.cell? v1 ⟨w.heap.size, 1, none⟩ = some (.slice B n2 c2) ∧ World.cell? v1 ⟨w.heap.size, 2, none⟩ = some (.int .u16 u) ∧ World.cell? v1 ⟨w.heap.size, 3, none⟩ = some (.slice D n3 c3) ∧ World.cell? v1 ⟨w.heap.size, 4, none⟩ = some (.slice E n4 c4) ∧ World.cell? v1 ⟨w.heap.size, 5, none⟩ = some (.slice F kk c5) ∧ World.cell? v1 ⟨w.heap.size + 1, 0, none⟩ = some (.int .i64 kd) ∧ World.cell? v1 ⟨w.heap.size + 1, 1, none⟩ = some (.int .i64 sv) ∧ World.cell? v1 ⟨w.heap.size + 1, 2, none⟩ = some (.int .i64 tt) ∧ World.cell? v1 ⟨w.heap.size + 1, 3, none⟩ = some (.int .i64 vw) ∧ World.cell? v1 ⟨w.heap.size + 1, 4, none⟩ = some (.int .i64 sl) ∧ World.cell? v1 ⟨w.heap.size + 1, 5, none⟩ = some (.int .i64 vl) ∧ World.cell? v1 ⟨w.heap.size + 1, 6, none⟩ = some (.int .i64 pk) := ⟨bz_x HX.out 0 _ rfl, bz_x HX.out 1 _ rfl, bz_x HX.out 2 _ rfl, bz_x HX.out 3 _ rfl, bz_x HX.out 4 _ rfl, bz_x HX.out 5 _ rfl, bz_y HX.out 0 _ rfl, bz_y HX.out 1 _ rfl, bz_y HX.out 2 _ rfl, bz_y HX.out 3 _ rfl, bz_y HX.out 4 _ rfl, bz_y HX.out 5 _ rfl, bz_y HX.out 6 _ rfl⟩
        refine hK.out _ _ hS1 (fun hHeld => ?_)
        clear hK K
        try simp only [Act.put,qk1,qk2,qk3,qk4,qk5,qk6]
        refine tkq 7 rfl (v := ?_) (.inl ⟨by rfl, ?_⟩) (by assumption) ?_
        rotate_left
        · intro W h; (try dsimp only at h); go_simp; try with_reducible rfl
        try simp only [Act.put,qk1,qk2,qk3,qk4,qk5,qk6]
        refine tkq 8 rfl (v := ?_) (.inl ⟨by rfl, ?_⟩) (by assumption) ?_
        rotate_left
        · intro W h; (try dsimp only at h); go_simp; try with_reducible rfl
        try simp only [Act.put,qk1,qk2,qk3,qk4,qk5,qk6]
        refine tkq 9 rfl (v := undef) (.inr ⟨by rfl, rfl⟩) (by assumption) ?_
        try simp only [Act.put,qk1,qk2,qk3,qk4,qk5,qk6]
        refine tkq 10 rfl (v := undef) (.inr ⟨by rfl, rfl⟩) (by assumption) ?_
        try simp only [Act.put,qk1,qk2,qk3,qk4,qk5,qk6]
        refine tkq 11 rfl (v := undef) (.inr ⟨by rfl, rfl⟩) (by assumption) ?_
        try simp only [Act.put,qk1,qk2,qk3,qk4,qk5,qk6]
        refine tkq 12 rfl (v := undef) (.inr ⟨by rfl, rfl⟩) (by assumption) ?_
        try simp only [Act.put,qk1,qk2,qk3,qk4,qk5,qk6]
        refine tkq 13 rfl (v := undef) (.inr ⟨by rfl, rfl⟩) (by assumption) ?_
        try simp only [Act.put,qk1,qk2,qk3,qk4,qk5,qk6]
        refine tkq 14 rfl (v := ?_) (.inl ⟨by rfl, ?_⟩) (by assumption) ?_
        rotate_left
        · intro W h; (try dsimp only at h); go_simp; try with_reducible rfl
        try simp only [Act.put,qk1,qk2,qk3,qk4,qk5,qk6]
        refine tkq 15 rfl (v := ?_) (.inl ⟨by rfl, ?_⟩) (by assumption) ?_
        rotate_left
        · intro W h; (try dsimp only at h); go_simp; try with_reducible rfl
        try simp only [Act.put,qk1,qk2,qk3,qk4,qk5,qk6]
        refine tkq 16 rfl (v := undef) (.inr ⟨by rfl, rfl⟩) (by assumption) ?_
        try simp only [Act.put,qk1,qk2,qk3,qk4,qk5,qk6]
        refine tkq 17 rfl (v := undef) (.inr ⟨by rfl, rfl⟩) (by assumption) ?_
        try simp only [Act.put,qk1,qk2,qk3,qk4,qk5,qk6]
        refine tkq 18 rfl (v := undef) (.inr ⟨by rfl, rfl⟩) (by assumption) ?_
        try simp only [Act.put,qk1,qk2,qk3,qk4,qk5,qk6]
        refine tkq 19 rfl (v := undef) (.inr ⟨by rfl, rfl⟩) (by assumption) ?_
        try simp only [Act.put,qk1,qk2,qk3,qk4,qk5,qk6]
        refine tkq 20 rfl (v := undef) (.inr ⟨by rfl, rfl⟩) (by assumption) ?_
        try simp only [Act.put,qk1,qk2,qk3,qk4,qk5,qk6]
        refine tkq 21 rfl (v := undef) (.inr ⟨by rfl, rfl⟩) (by assumption) ?_
        try simp only [Act.put,qk1,qk2,qk3,qk4,qk5,qk6]
        refine tkq 22 rfl (v := undef) (.inr ⟨by rfl, rfl⟩) (by assumption) ?_
        try simp only [Act.put,qk1,qk2,qk3,qk4,qk5,qk6]
        refine tkq 23 rfl (v := undef) (.inr ⟨by rfl, rfl⟩) (by assumption) ?_
        try simp only [Act.put,qk1,qk2,qk3,qk4,qk5,qk6]
        refine tkq 24 rfl (v := undef) (.inr ⟨by rfl, rfl⟩) (by assumption) ?_
        try simp only [Act.put,qk1,qk2,qk3,qk4,qk5,qk6]
        refine tkq 25 rfl (v := ?_) (.inl ⟨by rfl, ?_⟩) (by assumption) ?_
        rotate_left
        · intro W h; (try dsimp only at h); go_simp; try with_reducible rfl
        try simp only [Act.put,qk1,qk2,qk3,qk4,qk5,qk6]
        refine wpAnyH_done (by kernel_rfl) ?_ _
        clear e1 e2
        go_wp2_with fail
        go_ret
        exact ret_er HV.out (bz_low HX.out)
      · cases h1 : s.testBit sv.toNat
        · have HV : Hid (vLi n kk s ⟨kd, sv, tt, vw, sl, vl, pk⟩ = 7) := hD (by rw [HVu.out, h1]; simp)
          have HI0 : Hid (∀ W : World, Calls Tryz.prog 29 #[.int .i64 sv, .int .i64 0, .int .i64 n1] W (fun e w' => e = .returned (.bool true) ∧ W = w')) := hD (fun W => by rw [← h0]; exact inQ_any _ _ _ W)
          have HI1 : Hid (∀ W : World, Calls Tryz.prog 30 #[.int .u16 (s : Int), .int .i64 sv] W (fun e w' => e = .returned (.bool false) ∧ W = w')) := hD (fun W => by rw [← h1, ← HBit.out h0]; exact has7_any s sv W hs)
          clear h0 h1
          have HX : Hid (Bz w [.slice A n c, .slice B n2 c2, .int .u16 u, .slice D n3 c3, .slice E n4 c4, .slice F kk c5] 36 [.int .i64 kd, .int .i64 sv, .int .i64 tt, .int .i64 vw, .int .i64 sl, .int .i64 vl, .int .i64 pk] 28 wr.drew) := hD (bz_on HX.out (Below.refl _ _).drew)
          generalize hv : wr.drew = v0 at HX
          have hS0 : World.cell? v0 ⟨w.heap.size, 0, none⟩ = some (.slice A n c) ∧ World.cell? v0 ⟨w.heap.size, 1, none⟩ = some (.slice B n2 c2) ∧ World.cell? v0 ⟨w.heap.size, 2, none⟩ = some (.int .u16 u) ∧ World.cell? v0 ⟨w.heap.size, 3, none⟩ = some (.slice D n3 c3) ∧ World.cell? v0 ⟨w.heap.size, 4, none⟩ = some (.slice E n4 c4) ∧ World.cell? v0 ⟨w.heap.size, 5, none⟩ = some (.slice F kk c5) ∧ World.cell? v0 ⟨w.heap.size + 1, 0, none⟩ = some (.int .i64 kd) ∧ World.cell? v0 ⟨w.heap.size + 1, 1, none⟩ = some (.int .i64 sv) ∧ World.cell? v0 ⟨w.heap.size + 1, 2, none⟩ = some (.int .i64 tt) ∧ World.cell? v0 ⟨w.heap.size + 1, 3, none⟩ = some (.int .i64 vw) ∧ World.cell? v0 ⟨w.heap.size + 1, 4, none⟩ = some (.int .i64 sl) ∧ World.cell? v0 ⟨w.heap.size + 1, 5, none⟩ = some (.int .i64 vl) ∧ World.cell? v0 ⟨w.heap.size + 1, 6, none⟩ = some (.int .i64 pk) := ⟨bz_x HX.out 0 _ rfl, bz_x HX.out 1 _ rfl, bz_x HX.out 2 _ rfl, bz_x HX.out 3 _ rfl, bz_x HX.out 4 _ rfl, bz_x HX.out 5 _ rfl, bz_y HX.out 0 _ rfl, bz_y HX.out 1 _ rfl, bz_y HX.out 2 _ rfl, bz_y HX.out 3 _ rfl, bz_y HX.out 4 _ rfl, bz_y HX.out 5 _ rfl, bz_y HX.out 6 _ rfl⟩
          refine wp_region_held_drew (S := fun W => World.cell? W ⟨w.heap.size, 0, none⟩ = some (.slice A n c) ∧ World.cell? W ⟨w.heap.size, 1, none⟩ = some (.slice B n2 c2) ∧ World.cell? W ⟨w.heap.size, 2, none⟩ = some (.int .u16 u) ∧ World.cell? W ⟨w.heap.size, 3, none⟩ = some (.slice D n3 c3) ∧ World.cell? W ⟨w.heap.size, 4, none⟩ = some (.slice E n4 c4) ∧ World.cell? W ⟨w.heap.size, 5, none⟩ = some (.slice F kk c5) ∧ World.cell? W ⟨w.heap.size + 1, 0, none⟩ = some (.int .i64 kd) ∧ World.cell? W ⟨w.heap.size + 1, 1, none⟩ = some (.int .i64 sv) ∧ World.cell? W ⟨w.heap.size + 1, 2, none⟩ = some (.int .i64 tt) ∧ World.cell? W ⟨w.heap.size + 1, 3, none⟩ = some (.int .i64 vw) ∧ World.cell? W ⟨w.heap.size + 1, 4, none⟩ = some (.int .i64 sl) ∧ World.cell? W ⟨w.heap.size + 1, 5, none⟩ = some (.int .i64 vl) ∧ World.cell? W ⟨w.heap.size + 1, 6, none⟩ = some (.int .i64 pk)) (by kernel_rfl) (by rw [hv]; exact hS0) (fun hHeld => ?_)
          rw [hv] at hHeld ⊢
          clear hv
          refine tkq 0 rfl (v := ?_) (.inl ⟨by rfl, ?_⟩) (by assumption) ?_
          rotate_left
          · intro W h; (try dsimp only at h); go_simp; try with_reducible rfl
          try simp only [Act.put,qk1,qk2,qk3,qk4,qk6]
          refine tkq 1 rfl (v := ?_) (.inl ⟨by rfl, ?_⟩) (by assumption) ?_
          rotate_left
          · intro W h; (try dsimp only at h); go_simp; try with_reducible rfl
          try simp only [Act.put,qk1,qk2,qk3,qk4,qk5,qk6]
          refine tkq 2 rfl (v := ?_) (.inl ⟨by rfl, ?_⟩) (by assumption) ?_
          rotate_left
          · intro W h; (try dsimp only at h); go_simp; try with_reducible rfl
          try simp only [Act.put,qk1,qk2,qk3,qk4,qk5,qk6]
          refine tkq 3 rfl (v := ?_) (.inl ⟨by rfl, ?_⟩) (by assumption) ?_
          rotate_left
          · intro W h; (try dsimp only at h); go_simp; try with_reducible rfl
          try simp only [Act.put,qk1,qk2,qk3,qk4,qk5,qk6]
          refine tkq 4 rfl (v := ?_) (.inl ⟨by rfl, ?_⟩) (by assumption) ?_
          rotate_left
          · intro W h; (try dsimp only at h); go_simp; try with_reducible rfl
          try simp only [Act.put,qk1,qk2,qk3,qk4,qk5,qk6]
          refine tkq 5 rfl (v := ?_) (.inl ⟨by rfl, ?_⟩) (by assumption) ?_
          rotate_left
          · intro W h; (try dsimp only at h); go_simp; try with_reducible rfl
          try simp only [Act.put,qk1,qk2,qk3,qk4,qk5,qk6]
          refine tkr 6 rfl (fun K hK => ?_)
          go_simp
          go_at_call 29
          refine (same_b (HI0.out _)).mono ?_
          rintro e v1 ⟨rfl, hs⟩
          have HX := hD (bz_on HX.out hs)
          clear hs
          go_wp2_with fail
          have hS1 : World.cell? v1 ⟨w.heap.size, 0, none⟩ = some (.slice A n c) ∧ World.cell? v1 ⟨w.heap.size, 1, none⟩ = some (.slice B n2 c2) ∧ World.cell? v1 ⟨w.heap.size, 2, none⟩ = some (.int .u16 u) ∧ World.cell? v1 ⟨w.heap.size, 3, none⟩ = some (.slice D n3 c3) ∧ World.cell? v1 ⟨w.heap.size, 4, none⟩ = some (.slice E n4 c4) ∧ World.cell? v1 ⟨w.heap.size, 5, none⟩ = some (.slice F kk c5) ∧ World.cell? v1 ⟨w.heap.size + 1, 0, none⟩ = some (.int .i64 kd) ∧ World.cell? v1 ⟨w.heap.size + 1, 1, none⟩ = some (.int .i64 sv) ∧ World.cell? v1 ⟨w.heap.size + 1, 2, none⟩ = some (.int .i64 tt) ∧ World.cell? v1 ⟨w.heap.size + 1, 3, none⟩ = some (.int .i64 vw) ∧ World.cell? v1 ⟨w.heap.size + 1, 4, none⟩ = some (.int .i64 sl) ∧ World.cell? v1 ⟨w.heap.size + 1, 5, none⟩ = some (.int .i64 vl) ∧ World.cell? v1 ⟨w.heap.size + 1, 6, none⟩ = some (.int .i64 pk) := ⟨bz_x HX.out 0 _ rfl, bz_x HX.out 1 _ rfl, bz_x HX.out 2 _ rfl, bz_x HX.out 3 _ rfl, bz_x HX.out 4 _ rfl, bz_x HX.out 5 _ rfl, bz_y HX.out 0 _ rfl, bz_y HX.out 1 _ rfl, bz_y HX.out 2 _ rfl, bz_y HX.out 3 _ rfl, bz_y HX.out 4 _ rfl, bz_y HX.out 5 _ rfl, bz_y HX.out 6 _ rfl⟩
          refine hK.out _ _ hS1 (fun hHeld => ?_)
          clear hK K
          try simp only [Act.put,qk1,qk2,qk3,qk4,qk5,qk6]
          refine tkq 7 rfl (v := ?_) (.inl ⟨by rfl, ?_⟩) (by assumption) ?_
          rotate_left
          · intro W h; (try dsimp only at h); go_simp; try with_reducible rfl
          try simp only [Act.put,qk1,qk2,qk3,qk4,qk5,qk6]
          refine tkq 8 rfl (v := ?_) (.inl ⟨by rfl, ?_⟩) (by assumption) ?_
          rotate_left
          · intro W h; (try dsimp only at h); go_simp; try with_reducible rfl
          try simp only [Act.put,qk1,qk2,qk3,qk4,qk5,qk6]
          refine tkq 9 rfl (v := ?_) (.inl ⟨by rfl, ?_⟩) (by assumption) ?_
          rotate_left
          · intro W h; (try dsimp only at h); go_simp; try with_reducible rfl
          try simp only [Act.put,qk1,qk2,qk3,qk4,qk5,qk6]
          refine tkq 10 rfl (v := ?_) (.inl ⟨by rfl, ?_⟩) (by assumption) ?_
          rotate_left
          · intro W h; (try dsimp only at h); go_simp; try with_reducible rfl
          try simp only [Act.put,qk1,qk2,qk3,qk4,qk5,qk6]
          refine tkq 11 rfl (v := ?_) (.inl ⟨by rfl, ?_⟩) (by assumption) ?_
          rotate_left
          · intro W h; (try dsimp only at h); go_simp; try with_reducible rfl
          try simp only [Act.put,qk1,qk2,qk3,qk4,qk5,qk6]
          refine tkr 12 rfl (fun K hK => ?_)
          go_simp
          go_at_call 30
          refine (same_b (HI1.out _)).mono ?_
          rintro e v2 ⟨rfl, hs⟩
          have HX := hD (bz_on HX.out hs)
          clear hs
          go_wp2_with fail
          have hS2 : World.cell? v2 ⟨w.heap.size, 0, none⟩ = some (.slice A n c) ∧ World.cell? v2 ⟨w.heap.size, 1, none⟩ = some (.slice B n2 c2) ∧ World.cell? v2 ⟨w.heap.size, 2, none⟩ = some (.int .u16 u) ∧ World.cell? v2 ⟨w.heap.size, 3, none⟩ = some (.slice D n3 c3) ∧ World.cell? v2 ⟨w.heap.size, 4, none⟩ = some (.slice E n4 c4) ∧ World.cell? v2 ⟨w.heap.size, 5, none⟩ = some (.slice F kk c5) ∧ World.cell? v2 ⟨w.heap.size + 1, 0, none⟩ = some (.int .i64 kd) ∧ World.cell? v2 ⟨w.heap.size + 1, 1, none⟩ = some (.int .i64 sv) ∧ World.cell? v2 ⟨w.heap.size + 1, 2, none⟩ = some (.int .i64 tt) ∧ World.cell? v2 ⟨w.heap.size + 1, 3, none⟩ = some (.int .i64 vw) ∧ World.cell? v2 ⟨w.heap.size + 1, 4, none⟩ = some (.int .i64 sl) ∧ World.cell? v2 ⟨w.heap.size + 1, 5, none⟩ = some (.int .i64 vl) ∧ World.cell? v2 ⟨w.heap.size + 1, 6, none⟩ = some (.int .i64 pk) := ⟨bz_x HX.out 0 _ rfl, bz_x HX.out 1 _ rfl, bz_x HX.out 2 _ rfl, bz_x HX.out 3 _ rfl, bz_x HX.out 4 _ rfl, bz_x HX.out 5 _ rfl, bz_y HX.out 0 _ rfl, bz_y HX.out 1 _ rfl, bz_y HX.out 2 _ rfl, bz_y HX.out 3 _ rfl, bz_y HX.out 4 _ rfl, bz_y HX.out 5 _ rfl, bz_y HX.out 6 _ rfl⟩
          refine hK.out _ _ hS2 (fun hHeld => ?_)
          clear hK K
          try simp only [Act.put,qk1,qk2,qk3,qk4,qk5,qk6]
          refine tkq 13 rfl (v := ?_) (.inl ⟨by rfl, ?_⟩) (by assumption) ?_
          rotate_left
          · intro W h; (try dsimp only at h); go_simp; try with_reducible rfl
          try simp only [Act.put,qk1,qk2,qk3,qk4,qk5,qk6]
          refine tkq 14 rfl (v := ?_) (.inl ⟨by rfl, ?_⟩) (by assumption) ?_
          rotate_left
          · intro W h; (try dsimp only at h); go_simp; try with_reducible rfl
          try simp only [Act.put,qk1,qk2,qk3,qk4,qk5,qk6]
          refine tkq 15 rfl (v := ?_) (.inl ⟨by rfl, ?_⟩) (by assumption) ?_
          rotate_left
          · intro W h; (try dsimp only at h); go_simp; try with_reducible rfl
          try simp only [Act.put,qk1,qk2,qk3,qk4,qk5,qk6]
          refine tkq 16 rfl (v := undef) (.inr ⟨by rfl, rfl⟩) (by assumption) ?_
          try simp only [Act.put,qk1,qk2,qk3,qk4,qk5,qk6]
          refine tkq 17 rfl (v := undef) (.inr ⟨by rfl, rfl⟩) (by assumption) ?_
          try simp only [Act.put,qk1,qk2,qk3,qk4,qk5,qk6]
          refine tkq 18 rfl (v := undef) (.inr ⟨by rfl, rfl⟩) (by assumption) ?_
          try simp only [Act.put,qk1,qk2,qk3,qk4,qk5,qk6]
          refine tkq 19 rfl (v := undef) (.inr ⟨by rfl, rfl⟩) (by assumption) ?_
          try simp only [Act.put,qk1,qk2,qk3,qk4,qk5,qk6]
          refine tkq 20 rfl (v := undef) (.inr ⟨by rfl, rfl⟩) (by assumption) ?_
          try simp only [Act.put,qk1,qk2,qk3,qk4,qk5,qk6]
          refine tkq 21 rfl (v := undef) (.inr ⟨by rfl, rfl⟩) (by assumption) ?_
          try simp only [Act.put,qk1,qk2,qk3,qk4,qk5,qk6]
          refine tkq 22 rfl (v := undef) (.inr ⟨by rfl, rfl⟩) (by assumption) ?_
          try simp only [Act.put,qk1,qk2,qk3,qk4,qk5,qk6]
          refine tkq 23 rfl (v := undef) (.inr ⟨by rfl, rfl⟩) (by assumption) ?_
          try simp only [Act.put,qk1,qk2,qk3,qk4,qk5,qk6]
          refine tkq 24 rfl (v := undef) (.inr ⟨by rfl, rfl⟩) (by assumption) ?_
          try simp only [Act.put,qk1,qk2,qk3,qk4,qk5,qk6]
          refine tkq 25 rfl (v := ?_) (.inl ⟨by rfl, ?_⟩) (by assumption) ?_
          rotate_left
          · intro W h; (try dsimp only at h); go_simp; try with_reducible rfl
          try simp only [Act.put,qk1,qk2,qk3,qk4,qk5,qk6]
          refine wpAnyH_done (by kernel_rfl) ?_ _
          clear e1 e2
          go_wp2_with fail
          go_ret
          exact ret_er HV.out (bz_low HX.out)
        · cases h2 : inR tt 0 r1
          · have HV : Hid (vLi n kk s ⟨kd, sv, tt, vw, sl, vl, pk⟩ = 7) := hD (by rw [HVu.out, h2]; simp)
            have HI0 : Hid (∀ W : World, Calls Tryz.prog 29 #[.int .i64 sv, .int .i64 0, .int .i64 n1] W (fun e w' => e = .returned (.bool true) ∧ W = w')) := hD (fun W => by rw [← h0]; exact inQ_any _ _ _ W)
            have HI1 : Hid (∀ W : World, Calls Tryz.prog 30 #[.int .u16 (s : Int), .int .i64 sv] W (fun e w' => e = .returned (.bool true) ∧ W = w')) := hD (fun W => by rw [← h1, ← HBit.out h0]; exact has7_any s sv W hs)
            have HI2 : Hid (∀ W : World, Calls Tryz.prog 29 #[.int .i64 tt, .int .i64 0, .int .i64 r1] W (fun e w' => e = .returned (.bool false) ∧ W = w')) := hD (fun W => by rw [← h2]; exact inQ_any _ _ _ W)
            clear h0 h1 h2
            have HX : Hid (Bz w [.slice A n c, .slice B n2 c2, .int .u16 u, .slice D n3 c3, .slice E n4 c4, .slice F kk c5] 36 [.int .i64 kd, .int .i64 sv, .int .i64 tt, .int .i64 vw, .int .i64 sl, .int .i64 vl, .int .i64 pk] 28 wr.drew) := hD (bz_on HX.out (Below.refl _ _).drew)
            generalize hv : wr.drew = v0 at HX
            have hS0 : World.cell? v0 ⟨w.heap.size, 0, none⟩ = some (.slice A n c) ∧ World.cell? v0 ⟨w.heap.size, 1, none⟩ = some (.slice B n2 c2) ∧ World.cell? v0 ⟨w.heap.size, 2, none⟩ = some (.int .u16 u) ∧ World.cell? v0 ⟨w.heap.size, 3, none⟩ = some (.slice D n3 c3) ∧ World.cell? v0 ⟨w.heap.size, 4, none⟩ = some (.slice E n4 c4) ∧ World.cell? v0 ⟨w.heap.size, 5, none⟩ = some (.slice F kk c5) ∧ World.cell? v0 ⟨w.heap.size + 1, 0, none⟩ = some (.int .i64 kd) ∧ World.cell? v0 ⟨w.heap.size + 1, 1, none⟩ = some (.int .i64 sv) ∧ World.cell? v0 ⟨w.heap.size + 1, 2, none⟩ = some (.int .i64 tt) ∧ World.cell? v0 ⟨w.heap.size + 1, 3, none⟩ = some (.int .i64 vw) ∧ World.cell? v0 ⟨w.heap.size + 1, 4, none⟩ = some (.int .i64 sl) ∧ World.cell? v0 ⟨w.heap.size + 1, 5, none⟩ = some (.int .i64 vl) ∧ World.cell? v0 ⟨w.heap.size + 1, 6, none⟩ = some (.int .i64 pk) := ⟨bz_x HX.out 0 _ rfl, bz_x HX.out 1 _ rfl, bz_x HX.out 2 _ rfl, bz_x HX.out 3 _ rfl, bz_x HX.out 4 _ rfl, bz_x HX.out 5 _ rfl, bz_y HX.out 0 _ rfl, bz_y HX.out 1 _ rfl, bz_y HX.out 2 _ rfl, bz_y HX.out 3 _ rfl, bz_y HX.out 4 _ rfl, bz_y HX.out 5 _ rfl, bz_y HX.out 6 _ rfl⟩
            refine wp_region_held_drew (S := fun W => World.cell? W ⟨w.heap.size, 0, none⟩ = some (.slice A n c) ∧ World.cell? W ⟨w.heap.size, 1, none⟩ = some (.slice B n2 c2) ∧ World.cell? W ⟨w.heap.size, 2, none⟩ = some (.int .u16 u) ∧ World.cell? W ⟨w.heap.size, 3, none⟩ = some (.slice D n3 c3) ∧ World.cell? W ⟨w.heap.size, 4, none⟩ = some (.slice E n4 c4) ∧ World.cell? W ⟨w.heap.size, 5, none⟩ = some (.slice F kk c5) ∧ World.cell? W ⟨w.heap.size + 1, 0, none⟩ = some (.int .i64 kd) ∧ World.cell? W ⟨w.heap.size + 1, 1, none⟩ = some (.int .i64 sv) ∧ World.cell? W ⟨w.heap.size + 1, 2, none⟩ = some (.int .i64 tt) ∧ World.cell? W ⟨w.heap.size + 1, 3, none⟩ = some (.int .i64 vw) ∧ World.cell? W ⟨w.heap.size + 1, 4, none⟩ = some (.int .i64 sl) ∧ World.cell? W ⟨w.heap.size + 1, 5, none⟩ = some (.int .i64 vl) ∧ World.cell? W ⟨w.heap.size + 1, 6, none⟩ = some (.int .i64 pk)) (by kernel_rfl) (by rw [hv]; exact hS0) (fun hHeld => ?_)
            rw [hv] at hHeld ⊢
            clear hv
            refine tkq 0 rfl (v := ?_) (.inl ⟨by rfl, ?_⟩) (by assumption) ?_
            rotate_left
            · intro W h; (try dsimp only at h); go_simp; try with_reducible rfl
            try simp only [Act.put,qk1,qk2,qk3,qk4,qk6]
            refine tkq 1 rfl (v := ?_) (.inl ⟨by rfl, ?_⟩) (by assumption) ?_
            rotate_left
            · intro W h; (try dsimp only at h); go_simp; try with_reducible rfl
            try simp only [Act.put,qk1,qk2,qk3,qk4,qk5,qk6]
            refine tkq 2 rfl (v := ?_) (.inl ⟨by rfl, ?_⟩) (by assumption) ?_
            rotate_left
            · intro W h; (try dsimp only at h); go_simp; try with_reducible rfl
            try simp only [Act.put,qk1,qk2,qk3,qk4,qk5,qk6]
            refine tkq 3 rfl (v := ?_) (.inl ⟨by rfl, ?_⟩) (by assumption) ?_
            rotate_left
            · intro W h; (try dsimp only at h); go_simp; try with_reducible rfl
            try simp only [Act.put,qk1,qk2,qk3,qk4,qk5,qk6]
            refine tkq 4 rfl (v := ?_) (.inl ⟨by rfl, ?_⟩) (by assumption) ?_
            rotate_left
            · intro W h; (try dsimp only at h); go_simp; try with_reducible rfl
            try simp only [Act.put,qk1,qk2,qk3,qk4,qk5,qk6]
            refine tkq 5 rfl (v := ?_) (.inl ⟨by rfl, ?_⟩) (by assumption) ?_
            rotate_left
            · intro W h; (try dsimp only at h); go_simp; try with_reducible rfl
            try simp only [Act.put,qk1,qk2,qk3,qk4,qk5,qk6]
            refine tkr 6 rfl (fun K hK => ?_)
            go_simp
            go_at_call 29
            refine (same_b (HI0.out _)).mono ?_
            rintro e v1 ⟨rfl, hs⟩
            have HX := hD (bz_on HX.out hs)
            clear hs
            go_wp2_with fail
            have hS1 : World.cell? v1 ⟨w.heap.size, 0, none⟩ = some (.slice A n c) ∧ World.cell? v1 ⟨w.heap.size, 1, none⟩ = some (.slice B n2 c2) ∧ World.cell? v1 ⟨w.heap.size, 2, none⟩ = some (.int .u16 u) ∧ World.cell? v1 ⟨w.heap.size, 3, none⟩ = some (.slice D n3 c3) ∧ World.cell? v1 ⟨w.heap.size, 4, none⟩ = some (.slice E n4 c4) ∧ World.cell? v1 ⟨w.heap.size, 5, none⟩ = some (.slice F kk c5) ∧ World.cell? v1 ⟨w.heap.size + 1, 0, none⟩ = some (.int .i64 kd) ∧ World.cell? v1 ⟨w.heap.size + 1, 1, none⟩ = some (.int .i64 sv) ∧ World.cell? v1 ⟨w.heap.size + 1, 2, none⟩ = some (.int .i64 tt) ∧ World.cell? v1 ⟨w.heap.size + 1, 3, none⟩ = some (.int .i64 vw) ∧ World.cell? v1 ⟨w.heap.size + 1, 4, none⟩ = some (.int .i64 sl) ∧ World.cell? v1 ⟨w.heap.size + 1, 5, none⟩ = some (.int .i64 vl) ∧ World.cell? v1 ⟨w.heap.size + 1, 6, none⟩ = some (.int .i64 pk) := ⟨bz_x HX.out 0 _ rfl, bz_x HX.out 1 _ rfl, bz_x HX.out 2 _ rfl, bz_x HX.out 3 _ rfl, bz_x HX.out 4 _ rfl, bz_x HX.out 5 _ rfl, bz_y HX.out 0 _ rfl, bz_y HX.out 1 _ rfl, bz_y HX.out 2 _ rfl, bz_y HX.out 3 _ rfl, bz_y HX.out 4 _ rfl, bz_y HX.out 5 _ rfl, bz_y HX.out 6 _ rfl⟩
            refine hK.out _ _ hS1 (fun hHeld => ?_)
            clear hK K
            try simp only [Act.put,qk1,qk2,qk3,qk4,qk5,qk6]
            refine tkq 7 rfl (v := ?_) (.inl ⟨by rfl, ?_⟩) (by assumption) ?_
            rotate_left
            · intro W h; (try dsimp only at h); go_simp; try with_reducible rfl
            try simp only [Act.put,qk1,qk2,qk3,qk4,qk5,qk6]
            refine tkq 8 rfl (v := ?_) (.inl ⟨by rfl, ?_⟩) (by assumption) ?_
            rotate_left
            · intro W h; (try dsimp only at h); go_simp; try with_reducible rfl
            try simp only [Act.put,qk1,qk2,qk3,qk4,qk5,qk6]
            refine tkq 9 rfl (v := ?_) (.inl ⟨by rfl, ?_⟩) (by assumption) ?_
            rotate_left
            · intro W h; (try dsimp only at h); go_simp; try with_reducible rfl
            try simp only [Act.put,qk1,qk2,qk3,qk4,qk5,qk6]
            refine tkq 10 rfl (v := ?_) (.inl ⟨by rfl, ?_⟩) (by assumption) ?_
            rotate_left
            · intro W h; (try dsimp only at h); go_simp; try with_reducible rfl
            try simp only [Act.put,qk1,qk2,qk3,qk4,qk5,qk6]
            refine tkq 11 rfl (v := ?_) (.inl ⟨by rfl, ?_⟩) (by assumption) ?_
            rotate_left
            · intro W h; (try dsimp only at h); go_simp; try with_reducible rfl
            try simp only [Act.put,qk1,qk2,qk3,qk4,qk5,qk6]
            refine tkr 12 rfl (fun K hK => ?_)
            go_simp
            go_at_call 30
            refine (same_b (HI1.out _)).mono ?_
            rintro e v2 ⟨rfl, hs⟩
            have HX := hD (bz_on HX.out hs)
            clear hs
            go_wp2_with fail
            have hS2 : World.cell? v2 ⟨w.heap.size, 0, none⟩ = some (.slice A n c) ∧ World.cell? v2 ⟨w.heap.size, 1, none⟩ = some (.slice B n2 c2) ∧ World.cell? v2 ⟨w.heap.size, 2, none⟩ = some (.int .u16 u) ∧ World.cell? v2 ⟨w.heap.size, 3, none⟩ = some (.slice D n3 c3) ∧ World.cell? v2 ⟨w.heap.size, 4, none⟩ = some (.slice E n4 c4) ∧ World.cell? v2 ⟨w.heap.size, 5, none⟩ = some (.slice F kk c5) ∧ World.cell? v2 ⟨w.heap.size + 1, 0, none⟩ = some (.int .i64 kd) ∧ World.cell? v2 ⟨w.heap.size + 1, 1, none⟩ = some (.int .i64 sv) ∧ World.cell? v2 ⟨w.heap.size + 1, 2, none⟩ = some (.int .i64 tt) ∧ World.cell? v2 ⟨w.heap.size + 1, 3, none⟩ = some (.int .i64 vw) ∧ World.cell? v2 ⟨w.heap.size + 1, 4, none⟩ = some (.int .i64 sl) ∧ World.cell? v2 ⟨w.heap.size + 1, 5, none⟩ = some (.int .i64 vl) ∧ World.cell? v2 ⟨w.heap.size + 1, 6, none⟩ = some (.int .i64 pk) := ⟨bz_x HX.out 0 _ rfl, bz_x HX.out 1 _ rfl, bz_x HX.out 2 _ rfl, bz_x HX.out 3 _ rfl, bz_x HX.out 4 _ rfl, bz_x HX.out 5 _ rfl, bz_y HX.out 0 _ rfl, bz_y HX.out 1 _ rfl, bz_y HX.out 2 _ rfl, bz_y HX.out 3 _ rfl, bz_y HX.out 4 _ rfl, bz_y HX.out 5 _ rfl, bz_y HX.out 6 _ rfl⟩
            refine hK.out _ _ hS2 (fun hHeld => ?_)
            clear hK K
            try simp only [Act.put,qk1,qk2,qk3,qk4,qk5,qk6]
            refine tkq 13 rfl (v := ?_) (.inl ⟨by rfl, ?_⟩) (by assumption) ?_
            rotate_left
            · intro W h; (try dsimp only at h); go_simp; try with_reducible rfl
            try simp only [Act.put,qk1,qk2,qk3,qk4,qk5,qk6]
            refine tkq 14 rfl (v := ?_) (.inl ⟨by rfl, ?_⟩) (by assumption) ?_
            rotate_left
            · intro W h; (try dsimp only at h); go_simp; try with_reducible rfl
            try simp only [Act.put,qk1,qk2,qk3,qk4,qk5,qk6]
            refine tkq 15 rfl (v := ?_) (.inl ⟨by rfl, ?_⟩) (by assumption) ?_
            rotate_left
            · intro W h; (try dsimp only at h); go_simp; try with_reducible rfl
            try simp only [Act.put,qk1,qk2,qk3,qk4,qk5,qk6]
            refine tkq 16 rfl (v := ?_) (.inl ⟨by rfl, ?_⟩) (by assumption) ?_
            rotate_left
            · intro W h; (try dsimp only at h); go_simp; try with_reducible rfl
            try simp only [Act.put,qk1,qk2,qk3,qk4,qk5,qk6]
            refine tkq 17 rfl (v := ?_) (.inl ⟨by rfl, ?_⟩) (by assumption) ?_
            rotate_left
            · intro W h; (try dsimp only at h); go_simp; try with_reducible rfl
            try simp only [Act.put,qk1,qk2,qk3,qk4,qk5,qk6]
            refine tkq 18 rfl (v := ?_) (.inl ⟨by rfl, ?_⟩) (by assumption) ?_
            rotate_left
            · intro W h; (try dsimp only at h); go_simp; try with_reducible rfl
            try simp only [Act.put,qk1,qk2,qk3,qk4,qk5,qk6]
            refine tkq 19 rfl (v := ?_) (.inl ⟨by rfl, ?_⟩) (by assumption) ?_
            rotate_left
            · intro W h; (try dsimp only at h); go_simp; try with_reducible rfl
            try simp only [Act.put,qk1,qk2,qk3,qk4,qk5,qk6]
            refine tkq 20 rfl (v := ?_) (.inl ⟨by rfl, ?_⟩) (by assumption) ?_
            rotate_left
            · intro W h; (try dsimp only at h); go_simp; try with_reducible rfl
            try simp only [Act.put,qk1,qk2,qk3,qk4,qk5,qk6]
            refine tkr 21 rfl (fun K hK => ?_)
            go_simp
            go_at_call 31
            refine (HRc.out _).mono ?_
            rintro e v3 ⟨rfl, hs⟩
            have HX := hD (bz_on HX.out hs)
            clear hs
            go_wp2_with fail
            have hS3 : World.cell? v3 ⟨w.heap.size, 0, none⟩ = some (.slice A n c) ∧ World.cell? v3 ⟨w.heap.size, 1, none⟩ = some (.slice B n2 c2) ∧ World.cell? v3 ⟨w.heap.size, 2, none⟩ = some (.int .u16 u) ∧ World.cell? v3 ⟨w.heap.size, 3, none⟩ = some (.slice D n3 c3) ∧ World.cell? v3 ⟨w.heap.size, 4, none⟩ = some (.slice E n4 c4) ∧ World.cell? v3 ⟨w.heap.size, 5, none⟩ = some (.slice F kk c5) ∧ World.cell? v3 ⟨w.heap.size + 1, 0, none⟩ = some (.int .i64 kd) ∧ World.cell? v3 ⟨w.heap.size + 1, 1, none⟩ = some (.int .i64 sv) ∧ World.cell? v3 ⟨w.heap.size + 1, 2, none⟩ = some (.int .i64 tt) ∧ World.cell? v3 ⟨w.heap.size + 1, 3, none⟩ = some (.int .i64 vw) ∧ World.cell? v3 ⟨w.heap.size + 1, 4, none⟩ = some (.int .i64 sl) ∧ World.cell? v3 ⟨w.heap.size + 1, 5, none⟩ = some (.int .i64 vl) ∧ World.cell? v3 ⟨w.heap.size + 1, 6, none⟩ = some (.int .i64 pk) := ⟨bz_x HX.out 0 _ rfl, bz_x HX.out 1 _ rfl, bz_x HX.out 2 _ rfl, bz_x HX.out 3 _ rfl, bz_x HX.out 4 _ rfl, bz_x HX.out 5 _ rfl, bz_y HX.out 0 _ rfl, bz_y HX.out 1 _ rfl, bz_y HX.out 2 _ rfl, bz_y HX.out 3 _ rfl, bz_y HX.out 4 _ rfl, bz_y HX.out 5 _ rfl, bz_y HX.out 6 _ rfl⟩
            refine hK.out _ _ hS3 (fun hHeld => ?_)
            clear hK K
            try simp only [Act.put,qk1,qk2,qk3,qk4,qk5,qk6]
            refine tkq 22 rfl (v := ?_) (.inl ⟨by rfl, ?_⟩) (by assumption) ?_
            rotate_left
            · intro W h; (try dsimp only at h); go_simp; try with_reducible rfl
            try simp only [Act.put,qk1,qk2,qk3,qk4,qk5,qk6]
            refine tkr 23 rfl (fun K hK => ?_)
            go_simp
            go_at_call 29
            refine (same_b (HI2.out _)).mono ?_
            rintro e v4 ⟨rfl, hs⟩
            have HX := hD (bz_on HX.out hs)
            clear hs
            go_wp2_with fail
            have hS4 : World.cell? v4 ⟨w.heap.size, 0, none⟩ = some (.slice A n c) ∧ World.cell? v4 ⟨w.heap.size, 1, none⟩ = some (.slice B n2 c2) ∧ World.cell? v4 ⟨w.heap.size, 2, none⟩ = some (.int .u16 u) ∧ World.cell? v4 ⟨w.heap.size, 3, none⟩ = some (.slice D n3 c3) ∧ World.cell? v4 ⟨w.heap.size, 4, none⟩ = some (.slice E n4 c4) ∧ World.cell? v4 ⟨w.heap.size, 5, none⟩ = some (.slice F kk c5) ∧ World.cell? v4 ⟨w.heap.size + 1, 0, none⟩ = some (.int .i64 kd) ∧ World.cell? v4 ⟨w.heap.size + 1, 1, none⟩ = some (.int .i64 sv) ∧ World.cell? v4 ⟨w.heap.size + 1, 2, none⟩ = some (.int .i64 tt) ∧ World.cell? v4 ⟨w.heap.size + 1, 3, none⟩ = some (.int .i64 vw) ∧ World.cell? v4 ⟨w.heap.size + 1, 4, none⟩ = some (.int .i64 sl) ∧ World.cell? v4 ⟨w.heap.size + 1, 5, none⟩ = some (.int .i64 vl) ∧ World.cell? v4 ⟨w.heap.size + 1, 6, none⟩ = some (.int .i64 pk) := ⟨bz_x HX.out 0 _ rfl, bz_x HX.out 1 _ rfl, bz_x HX.out 2 _ rfl, bz_x HX.out 3 _ rfl, bz_x HX.out 4 _ rfl, bz_x HX.out 5 _ rfl, bz_y HX.out 0 _ rfl, bz_y HX.out 1 _ rfl, bz_y HX.out 2 _ rfl, bz_y HX.out 3 _ rfl, bz_y HX.out 4 _ rfl, bz_y HX.out 5 _ rfl, bz_y HX.out 6 _ rfl⟩
            refine hK.out _ _ hS4 (fun hHeld => ?_)
            clear hK K
            try simp only [Act.put,qk1,qk2,qk3,qk4,qk5,qk6]
            refine tkq 24 rfl (v := ?_) (.inl ⟨by rfl, ?_⟩) (by assumption) ?_
            rotate_left
            · intro W h; (try dsimp only at h); go_simp; try with_reducible rfl
            try simp only [Act.put,qk1,qk2,qk3,qk4,qk5,qk6]
            refine tkq 25 rfl (v := ?_) (.inl ⟨by rfl, ?_⟩) (by assumption) ?_
            rotate_left
            · intro W h; (try dsimp only at h); go_simp; try with_reducible rfl
            try simp only [Act.put,qk1,qk2,qk3,qk4,qk5,qk6]
            refine wpAnyH_done (by kernel_rfl) ?_ _
            clear e1 e2
            go_wp2_with fail
            go_ret
            exact ret_er HV.out (bz_low HX.out)
          · cases h3 : inR vw 1 1000000
            · have HV : Hid (vLi n kk s ⟨kd, sv, tt, vw, sl, vl, pk⟩ = 7) := hD (by rw [HVu.out, h3]; simp)
              have HI0 : Hid (∀ W : World, Calls Tryz.prog 29 #[.int .i64 sv, .int .i64 0, .int .i64 n1] W (fun e w' => e = .returned (.bool true) ∧ W = w')) := hD (fun W => by rw [← h0]; exact inQ_any _ _ _ W)
              have HI1 : Hid (∀ W : World, Calls Tryz.prog 30 #[.int .u16 (s : Int), .int .i64 sv] W (fun e w' => e = .returned (.bool true) ∧ W = w')) := hD (fun W => by rw [← h1, ← HBit.out h0]; exact has7_any s sv W hs)
              have HI2 : Hid (∀ W : World, Calls Tryz.prog 29 #[.int .i64 tt, .int .i64 0, .int .i64 r1] W (fun e w' => e = .returned (.bool true) ∧ W = w')) := hD (fun W => by rw [← h2]; exact inQ_any _ _ _ W)
              have HI3 : Hid (∀ W : World, Calls Tryz.prog 29 #[.int .i64 vw, .int .i64 1, .int .i64 1000000] W (fun e w' => e = .returned (.bool false) ∧ W = w')) := hD (fun W => by rw [← h3]; exact inQ_any _ _ _ W)
              clear h0 h1 h2 h3
              have HX : Hid (Bz w [.slice A n c, .slice B n2 c2, .int .u16 u, .slice D n3 c3, .slice E n4 c4, .slice F kk c5] 36 [.int .i64 kd, .int .i64 sv, .int .i64 tt, .int .i64 vw, .int .i64 sl, .int .i64 vl, .int .i64 pk] 28 wr.drew) := hD (bz_on HX.out (Below.refl _ _).drew)
              generalize hv : wr.drew = v0 at HX
              have hS0 : World.cell? v0 ⟨w.heap.size, 0, none⟩ = some (.slice A n c) ∧ World.cell? v0 ⟨w.heap.size, 1, none⟩ = some (.slice B n2 c2) ∧ World.cell? v0 ⟨w.heap.size, 2, none⟩ = some (.int .u16 u) ∧ World.cell? v0 ⟨w.heap.size, 3, none⟩ = some (.slice D n3 c3) ∧ World.cell? v0 ⟨w.heap.size, 4, none⟩ = some (.slice E n4 c4) ∧ World.cell? v0 ⟨w.heap.size, 5, none⟩ = some (.slice F kk c5) ∧ World.cell? v0 ⟨w.heap.size + 1, 0, none⟩ = some (.int .i64 kd) ∧ World.cell? v0 ⟨w.heap.size + 1, 1, none⟩ = some (.int .i64 sv) ∧ World.cell? v0 ⟨w.heap.size + 1, 2, none⟩ = some (.int .i64 tt) ∧ World.cell? v0 ⟨w.heap.size + 1, 3, none⟩ = some (.int .i64 vw) ∧ World.cell? v0 ⟨w.heap.size + 1, 4, none⟩ = some (.int .i64 sl) ∧ World.cell? v0 ⟨w.heap.size + 1, 5, none⟩ = some (.int .i64 vl) ∧ World.cell? v0 ⟨w.heap.size + 1, 6, none⟩ = some (.int .i64 pk) := ⟨bz_x HX.out 0 _ rfl, bz_x HX.out 1 _ rfl, bz_x HX.out 2 _ rfl, bz_x HX.out 3 _ rfl, bz_x HX.out 4 _ rfl, bz_x HX.out 5 _ rfl, bz_y HX.out 0 _ rfl, bz_y HX.out 1 _ rfl, bz_y HX.out 2 _ rfl, bz_y HX.out 3 _ rfl, bz_y HX.out 4 _ rfl, bz_y HX.out 5 _ rfl, bz_y HX.out 6 _ rfl⟩
              refine wp_region_held_drew (S := fun W => World.cell? W ⟨w.heap.size, 0, none⟩ = some (.slice A n c) ∧ World.cell? W ⟨w.heap.size, 1, none⟩ = some (.slice B n2 c2) ∧ World.cell? W ⟨w.heap.size, 2, none⟩ = some (.int .u16 u) ∧ World.cell? W ⟨w.heap.size, 3, none⟩ = some (.slice D n3 c3) ∧ World.cell? W ⟨w.heap.size, 4, none⟩ = some (.slice E n4 c4) ∧ World.cell? W ⟨w.heap.size, 5, none⟩ = some (.slice F kk c5) ∧ World.cell? W ⟨w.heap.size + 1, 0, none⟩ = some (.int .i64 kd) ∧ World.cell? W ⟨w.heap.size + 1, 1, none⟩ = some (.int .i64 sv) ∧ World.cell? W ⟨w.heap.size + 1, 2, none⟩ = some (.int .i64 tt) ∧ World.cell? W ⟨w.heap.size + 1, 3, none⟩ = some (.int .i64 vw) ∧ World.cell? W ⟨w.heap.size + 1, 4, none⟩ = some (.int .i64 sl) ∧ World.cell? W ⟨w.heap.size + 1, 5, none⟩ = some (.int .i64 vl) ∧ World.cell? W ⟨w.heap.size + 1, 6, none⟩ = some (.int .i64 pk)) (by kernel_rfl) (by rw [hv]; exact hS0) (fun hHeld => ?_)
              rw [hv] at hHeld ⊢
              clear hv
              refine tkq 0 rfl (v := ?_) (.inl ⟨by rfl, ?_⟩) (by assumption) ?_
              rotate_left
              · intro W h; (try dsimp only at h); go_simp; try with_reducible rfl
              try simp only [Act.put,qk1,qk2,qk3,qk4,qk6]
              refine tkq 1 rfl (v := ?_) (.inl ⟨by rfl, ?_⟩) (by assumption) ?_
              rotate_left
              · intro W h; (try dsimp only at h); go_simp; try with_reducible rfl
              try simp only [Act.put,qk1,qk2,qk3,qk4,qk5,qk6]
              refine tkq 2 rfl (v := ?_) (.inl ⟨by rfl, ?_⟩) (by assumption) ?_
              rotate_left
              · intro W h; (try dsimp only at h); go_simp; try with_reducible rfl
              try simp only [Act.put,qk1,qk2,qk3,qk4,qk5,qk6]
              refine tkq 3 rfl (v := ?_) (.inl ⟨by rfl, ?_⟩) (by assumption) ?_
              rotate_left
              · intro W h; (try dsimp only at h); go_simp; try with_reducible rfl
              try simp only [Act.put,qk1,qk2,qk3,qk4,qk5,qk6]
              refine tkq 4 rfl (v := ?_) (.inl ⟨by rfl, ?_⟩) (by assumption) ?_
              rotate_left
              · intro W h; (try dsimp only at h); go_simp; try with_reducible rfl
              try simp only [Act.put,qk1,qk2,qk3,qk4,qk5,qk6]
              refine tkq 5 rfl (v := ?_) (.inl ⟨by rfl, ?_⟩) (by assumption) ?_
              rotate_left
              · intro W h; (try dsimp only at h); go_simp; try with_reducible rfl
              try simp only [Act.put,qk1,qk2,qk3,qk4,qk5,qk6]
              refine tkr 6 rfl (fun K hK => ?_)
              go_simp
              go_at_call 29
              refine (same_b (HI0.out _)).mono ?_
              rintro e v1 ⟨rfl, hs⟩
              have HX := hD (bz_on HX.out hs)
              clear hs
              go_wp2_with fail
              have hS1 : World.cell? v1 ⟨w.heap.size, 0, none⟩ = some (.slice A n c) ∧ World.cell? v1 ⟨w.heap.size, 1, none⟩ = some (.slice B n2 c2) ∧ World.cell? v1 ⟨w.heap.size, 2, none⟩ = some (.int .u16 u) ∧ World.cell? v1 ⟨w.heap.size, 3, none⟩ = some (.slice D n3 c3) ∧ World.cell? v1 ⟨w.heap.size, 4, none⟩ = some (.slice E n4 c4) ∧ World.cell? v1 ⟨w.heap.size, 5, none⟩ = some (.slice F kk c5) ∧ World.cell? v1 ⟨w.heap.size + 1, 0, none⟩ = some (.int .i64 kd) ∧ World.cell? v1 ⟨w.heap.size + 1, 1, none⟩ = some (.int .i64 sv) ∧ World.cell? v1 ⟨w.heap.size + 1, 2, none⟩ = some (.int .i64 tt) ∧ World.cell? v1 ⟨w.heap.size + 1, 3, none⟩ = some (.int .i64 vw) ∧ World.cell? v1 ⟨w.heap.size + 1, 4, none⟩ = some (.int .i64 sl) ∧ World.cell? v1 ⟨w.heap.size + 1, 5, none⟩ = some (.int .i64 vl) ∧ World.cell? v1 ⟨w.heap.size + 1, 6, none⟩ = some (.int .i64 pk) := ⟨bz_x HX.out 0 _ rfl, bz_x HX.out 1 _ rfl, bz_x HX.out 2 _ rfl, bz_x HX.out 3 _ rfl, bz_x HX.out 4 _ rfl, bz_x HX.out 5 _ rfl, bz_y HX.out 0 _ rfl, bz_y HX.out 1 _ rfl, bz_y HX.out 2 _ rfl, bz_y HX.out 3 _ rfl, bz_y HX.out 4 _ rfl, bz_y HX.out 5 _ rfl, bz_y HX.out 6 _ rfl⟩
              refine hK.out _ _ hS1 (fun hHeld => ?_)
              clear hK K
              try simp only [Act.put,qk1,qk2,qk3,qk4,qk5,qk6]
              refine tkq 7 rfl (v := ?_) (.inl ⟨by rfl, ?_⟩) (by assumption) ?_
              rotate_left
              · intro W h; (try dsimp only at h); go_simp; try with_reducible rfl
              try simp only [Act.put,qk1,qk2,qk3,qk4,qk5,qk6]
              refine tkq 8 rfl (v := ?_) (.inl ⟨by rfl, ?_⟩) (by assumption) ?_
              rotate_left
              · intro W h; (try dsimp only at h); go_simp; try with_reducible rfl
              try simp only [Act.put,qk1,qk2,qk3,qk4,qk5,qk6]
              refine tkq 9 rfl (v := ?_) (.inl ⟨by rfl, ?_⟩) (by assumption) ?_
              rotate_left
              · intro W h; (try dsimp only at h); go_simp; try with_reducible rfl
              try simp only [Act.put,qk1,qk2,qk3,qk4,qk5,qk6]
              refine tkq 10 rfl (v := ?_) (.inl ⟨by rfl, ?_⟩) (by assumption) ?_
              rotate_left
              · intro W h; (try dsimp only at h); go_simp; try with_reducible rfl
              try simp only [Act.put,qk1,qk2,qk3,qk4,qk5,qk6]
              refine tkq 11 rfl (v := ?_) (.inl ⟨by rfl, ?_⟩) (by assumption) ?_
              rotate_left
              · intro W h; (try dsimp only at h); go_simp; try with_reducible rfl
              try simp only [Act.put,qk1,qk2,qk3,qk4,qk5,qk6]
              refine tkr 12 rfl (fun K hK => ?_)
              go_simp
              go_at_call 30
              refine (same_b (HI1.out _)).mono ?_
              rintro e v2 ⟨rfl, hs⟩
              have HX := hD (bz_on HX.out hs)
              clear hs
              go_wp2_with fail
              have hS2 : World.cell? v2 ⟨w.heap.size, 0, none⟩ = some (.slice A n c) ∧ World.cell? v2 ⟨w.heap.size, 1, none⟩ = some (.slice B n2 c2) ∧ World.cell? v2 ⟨w.heap.size, 2, none⟩ = some (.int .u16 u) ∧ World.cell? v2 ⟨w.heap.size, 3, none⟩ = some (.slice D n3 c3) ∧ World.cell? v2 ⟨w.heap.size, 4, none⟩ = some (.slice E n4 c4) ∧ World.cell? v2 ⟨w.heap.size, 5, none⟩ = some (.slice F kk c5) ∧ World.cell? v2 ⟨w.heap.size + 1, 0, none⟩ = some (.int .i64 kd) ∧ World.cell? v2 ⟨w.heap.size + 1, 1, none⟩ = some (.int .i64 sv) ∧ World.cell? v2 ⟨w.heap.size + 1, 2, none⟩ = some (.int .i64 tt) ∧ World.cell? v2 ⟨w.heap.size + 1, 3, none⟩ = some (.int .i64 vw) ∧ World.cell? v2 ⟨w.heap.size + 1, 4, none⟩ = some (.int .i64 sl) ∧ World.cell? v2 ⟨w.heap.size + 1, 5, none⟩ = some (.int .i64 vl) ∧ World.cell? v2 ⟨w.heap.size + 1, 6, none⟩ = some (.int .i64 pk) := ⟨bz_x HX.out 0 _ rfl, bz_x HX.out 1 _ rfl, bz_x HX.out 2 _ rfl, bz_x HX.out 3 _ rfl, bz_x HX.out 4 _ rfl, bz_x HX.out 5 _ rfl, bz_y HX.out 0 _ rfl, bz_y HX.out 1 _ rfl, bz_y HX.out 2 _ rfl, bz_y HX.out 3 _ rfl, bz_y HX.out 4 _ rfl, bz_y HX.out 5 _ rfl, bz_y HX.out 6 _ rfl⟩
              refine hK.out _ _ hS2 (fun hHeld => ?_)
              clear hK K
              try simp only [Act.put,qk1,qk2,qk3,qk4,qk5,qk6]
              refine tkq 13 rfl (v := ?_) (.inl ⟨by rfl, ?_⟩) (by assumption) ?_
              rotate_left
              · intro W h; (try dsimp only at h); go_simp; try with_reducible rfl
              try simp only [Act.put,qk1,qk2,qk3,qk4,qk5,qk6]
              refine tkq 14 rfl (v := ?_) (.inl ⟨by rfl, ?_⟩) (by assumption) ?_
              rotate_left
              · intro W h; (try dsimp only at h); go_simp; try with_reducible rfl
              try simp only [Act.put,qk1,qk2,qk3,qk4,qk5,qk6]
              refine tkq 15 rfl (v := ?_) (.inl ⟨by rfl, ?_⟩) (by assumption) ?_
              rotate_left
              · intro W h; (try dsimp only at h); go_simp; try with_reducible rfl
              try simp only [Act.put,qk1,qk2,qk3,qk4,qk5,qk6]
              refine tkq 16 rfl (v := ?_) (.inl ⟨by rfl, ?_⟩) (by assumption) ?_
              rotate_left
              · intro W h; (try dsimp only at h); go_simp; try with_reducible rfl
              try simp only [Act.put,qk1,qk2,qk3,qk4,qk5,qk6]
              refine tkq 17 rfl (v := ?_) (.inl ⟨by rfl, ?_⟩) (by assumption) ?_
              rotate_left
              · intro W h; (try dsimp only at h); go_simp; try with_reducible rfl
              try simp only [Act.put,qk1,qk2,qk3,qk4,qk5,qk6]
              refine tkq 18 rfl (v := ?_) (.inl ⟨by rfl, ?_⟩) (by assumption) ?_
              rotate_left
              · intro W h; (try dsimp only at h); go_simp; try with_reducible rfl
              try simp only [Act.put,qk1,qk2,qk3,qk4,qk5,qk6]
              refine tkq 19 rfl (v := ?_) (.inl ⟨by rfl, ?_⟩) (by assumption) ?_
              rotate_left
              · intro W h; (try dsimp only at h); go_simp; try with_reducible rfl
              try simp only [Act.put,qk1,qk2,qk3,qk4,qk5,qk6]
              refine tkq 20 rfl (v := ?_) (.inl ⟨by rfl, ?_⟩) (by assumption) ?_
              rotate_left
              · intro W h; (try dsimp only at h); go_simp; try with_reducible rfl
              try simp only [Act.put,qk1,qk2,qk3,qk4,qk5,qk6]
              refine tkr 21 rfl (fun K hK => ?_)
              go_simp
              go_at_call 31
              refine (HRc.out _).mono ?_
              rintro e v3 ⟨rfl, hs⟩
              have HX := hD (bz_on HX.out hs)
              clear hs
              go_wp2_with fail
              have hS3 : World.cell? v3 ⟨w.heap.size, 0, none⟩ = some (.slice A n c) ∧ World.cell? v3 ⟨w.heap.size, 1, none⟩ = some (.slice B n2 c2) ∧ World.cell? v3 ⟨w.heap.size, 2, none⟩ = some (.int .u16 u) ∧ World.cell? v3 ⟨w.heap.size, 3, none⟩ = some (.slice D n3 c3) ∧ World.cell? v3 ⟨w.heap.size, 4, none⟩ = some (.slice E n4 c4) ∧ World.cell? v3 ⟨w.heap.size, 5, none⟩ = some (.slice F kk c5) ∧ World.cell? v3 ⟨w.heap.size + 1, 0, none⟩ = some (.int .i64 kd) ∧ World.cell? v3 ⟨w.heap.size + 1, 1, none⟩ = some (.int .i64 sv) ∧ World.cell? v3 ⟨w.heap.size + 1, 2, none⟩ = some (.int .i64 tt) ∧ World.cell? v3 ⟨w.heap.size + 1, 3, none⟩ = some (.int .i64 vw) ∧ World.cell? v3 ⟨w.heap.size + 1, 4, none⟩ = some (.int .i64 sl) ∧ World.cell? v3 ⟨w.heap.size + 1, 5, none⟩ = some (.int .i64 vl) ∧ World.cell? v3 ⟨w.heap.size + 1, 6, none⟩ = some (.int .i64 pk) := ⟨bz_x HX.out 0 _ rfl, bz_x HX.out 1 _ rfl, bz_x HX.out 2 _ rfl, bz_x HX.out 3 _ rfl, bz_x HX.out 4 _ rfl, bz_x HX.out 5 _ rfl, bz_y HX.out 0 _ rfl, bz_y HX.out 1 _ rfl, bz_y HX.out 2 _ rfl, bz_y HX.out 3 _ rfl, bz_y HX.out 4 _ rfl, bz_y HX.out 5 _ rfl, bz_y HX.out 6 _ rfl⟩
              refine hK.out _ _ hS3 (fun hHeld => ?_)
              clear hK K
              try simp only [Act.put,qk1,qk2,qk3,qk4,qk5,qk6]
              refine tkq 22 rfl (v := ?_) (.inl ⟨by rfl, ?_⟩) (by assumption) ?_
              rotate_left
              · intro W h; (try dsimp only at h); go_simp; try with_reducible rfl
              try simp only [Act.put,qk1,qk2,qk3,qk4,qk5,qk6]
              refine tkr 23 rfl (fun K hK => ?_)
              go_simp
              go_at_call 29
              refine (same_b (HI2.out _)).mono ?_
              rintro e v4 ⟨rfl, hs⟩
              have HX := hD (bz_on HX.out hs)
              clear hs
              go_wp2_with fail
              have hS4 : World.cell? v4 ⟨w.heap.size, 0, none⟩ = some (.slice A n c) ∧ World.cell? v4 ⟨w.heap.size, 1, none⟩ = some (.slice B n2 c2) ∧ World.cell? v4 ⟨w.heap.size, 2, none⟩ = some (.int .u16 u) ∧ World.cell? v4 ⟨w.heap.size, 3, none⟩ = some (.slice D n3 c3) ∧ World.cell? v4 ⟨w.heap.size, 4, none⟩ = some (.slice E n4 c4) ∧ World.cell? v4 ⟨w.heap.size, 5, none⟩ = some (.slice F kk c5) ∧ World.cell? v4 ⟨w.heap.size + 1, 0, none⟩ = some (.int .i64 kd) ∧ World.cell? v4 ⟨w.heap.size + 1, 1, none⟩ = some (.int .i64 sv) ∧ World.cell? v4 ⟨w.heap.size + 1, 2, none⟩ = some (.int .i64 tt) ∧ World.cell? v4 ⟨w.heap.size + 1, 3, none⟩ = some (.int .i64 vw) ∧ World.cell? v4 ⟨w.heap.size + 1, 4, none⟩ = some (.int .i64 sl) ∧ World.cell? v4 ⟨w.heap.size + 1, 5, none⟩ = some (.int .i64 vl) ∧ World.cell? v4 ⟨w.heap.size + 1, 6, none⟩ = some (.int .i64 pk) := ⟨bz_x HX.out 0 _ rfl, bz_x HX.out 1 _ rfl, bz_x HX.out 2 _ rfl, bz_x HX.out 3 _ rfl, bz_x HX.out 4 _ rfl, bz_x HX.out 5 _ rfl, bz_y HX.out 0 _ rfl, bz_y HX.out 1 _ rfl, bz_y HX.out 2 _ rfl, bz_y HX.out 3 _ rfl, bz_y HX.out 4 _ rfl, bz_y HX.out 5 _ rfl, bz_y HX.out 6 _ rfl⟩
              refine hK.out _ _ hS4 (fun hHeld => ?_)
              clear hK K
              try simp only [Act.put,qk1,qk2,qk3,qk4,qk5,qk6]
              refine tkq 24 rfl (v := ?_) (.inl ⟨by rfl, ?_⟩) (by assumption) ?_
              rotate_left
              · intro W h; (try dsimp only at h); go_simp; try with_reducible rfl
              try simp only [Act.put,qk1,qk2,qk3,qk4,qk5,qk6]
              refine tkq 25 rfl (v := ?_) (.inl ⟨by rfl, ?_⟩) (by assumption) ?_
              rotate_left
              · intro W h; (try dsimp only at h); go_simp; try with_reducible rfl
              try simp only [Act.put,qk1,qk2,qk3,qk4,qk5,qk6]
              refine wpAnyH_done (by kernel_rfl) ?_ _
              clear e1 e2
              have x3 := bz_y HX.out 3 _ rfl
              have x4 := bz_y HX.out 4 _ rfl
              have x5 := bz_y HX.out 5 _ rfl
              have x6 := bz_y HX.out 6 _ rfl
              have lx : w.heap.size + 1 < (World.heap v4).size := by have := bz_size HX.out; omega
              go_wp2_with fail
              refine (HI3.out _).mono ?_
              rintro e wj ⟨rfl, rfl⟩
              go_wp2_with fail
              go_ret
              exact ret_er HV.out (bz_low HX.out)
            · cases h4 : inR sl 0 1000000
              · have HV : Hid (vLi n kk s ⟨kd, sv, tt, vw, sl, vl, pk⟩ = 7) := hD (by rw [HVu.out, h4]; simp)
                have HI0 : Hid (∀ W : World, Calls Tryz.prog 29 #[.int .i64 sv, .int .i64 0, .int .i64 n1] W (fun e w' => e = .returned (.bool true) ∧ W = w')) := hD (fun W => by rw [← h0]; exact inQ_any _ _ _ W)
                have HI1 : Hid (∀ W : World, Calls Tryz.prog 30 #[.int .u16 (s : Int), .int .i64 sv] W (fun e w' => e = .returned (.bool true) ∧ W = w')) := hD (fun W => by rw [← h1, ← HBit.out h0]; exact has7_any s sv W hs)
                have HI2 : Hid (∀ W : World, Calls Tryz.prog 29 #[.int .i64 tt, .int .i64 0, .int .i64 r1] W (fun e w' => e = .returned (.bool true) ∧ W = w')) := hD (fun W => by rw [← h2]; exact inQ_any _ _ _ W)
                have HI3 : Hid (∀ W : World, Calls Tryz.prog 29 #[.int .i64 vw, .int .i64 1, .int .i64 1000000] W (fun e w' => e = .returned (.bool true) ∧ W = w')) := hD (fun W => by rw [← h3]; exact inQ_any _ _ _ W)
                have HI4 : Hid (∀ W : World, Calls Tryz.prog 29 #[.int .i64 sl, .int .i64 0, .int .i64 1000000] W (fun e w' => e = .returned (.bool false) ∧ W = w')) := hD (fun W => by rw [← h4]; exact inQ_any _ _ _ W)
                clear h0 h1 h2 h3 h4
                have HX : Hid (Bz w [.slice A n c, .slice B n2 c2, .int .u16 u, .slice D n3 c3, .slice E n4 c4, .slice F kk c5] 36 [.int .i64 kd, .int .i64 sv, .int .i64 tt, .int .i64 vw, .int .i64 sl, .int .i64 vl, .int .i64 pk] 28 wr.drew) := hD (bz_on HX.out (Below.refl _ _).drew)
                generalize hv : wr.drew = v0 at HX
                have hS0 : World.cell? v0 ⟨w.heap.size, 0, none⟩ = some (.slice A n c) ∧ World.cell? v0 ⟨w.heap.size, 1, none⟩ = some (.slice B n2 c2) ∧ World.cell? v0 ⟨w.heap.size, 2, none⟩ = some (.int .u16 u) ∧ World.cell? v0 ⟨w.heap.size, 3, none⟩ = some (.slice D n3 c3) ∧ World.cell? v0 ⟨w.heap.size, 4, none⟩ = some (.slice E n4 c4) ∧ World.cell? v0 ⟨w.heap.size, 5, none⟩ = some (.slice F kk c5) ∧ World.cell? v0 ⟨w.heap.size + 1, 0, none⟩ = some (.int .i64 kd) ∧ World.cell? v0 ⟨w.heap.size + 1, 1, none⟩ = some (.int .i64 sv) ∧ World.cell? v0 ⟨w.heap.size + 1, 2, none⟩ = some (.int .i64 tt) ∧ World.cell? v0 ⟨w.heap.size + 1, 3, none⟩ = some (.int .i64 vw) ∧ World.cell? v0 ⟨w.heap.size + 1, 4, none⟩ = some (.int .i64 sl) ∧ World.cell? v0 ⟨w.heap.size + 1, 5, none⟩ = some (.int .i64 vl) ∧ World.cell? v0 ⟨w.heap.size + 1, 6, none⟩ = some (.int .i64 pk) := ⟨bz_x HX.out 0 _ rfl, bz_x HX.out 1 _ rfl, bz_x HX.out 2 _ rfl, bz_x HX.out 3 _ rfl, bz_x HX.out 4 _ rfl, bz_x HX.out 5 _ rfl, bz_y HX.out 0 _ rfl, bz_y HX.out 1 _ rfl, bz_y HX.out 2 _ rfl, bz_y HX.out 3 _ rfl, bz_y HX.out 4 _ rfl, bz_y HX.out 5 _ rfl, bz_y HX.out 6 _ rfl⟩
                refine wp_region_held_drew (S := fun W => World.cell? W ⟨w.heap.size, 0, none⟩ = some (.slice A n c) ∧ World.cell? W ⟨w.heap.size, 1, none⟩ = some (.slice B n2 c2) ∧ World.cell? W ⟨w.heap.size, 2, none⟩ = some (.int .u16 u) ∧ World.cell? W ⟨w.heap.size, 3, none⟩ = some (.slice D n3 c3) ∧ World.cell? W ⟨w.heap.size, 4, none⟩ = some (.slice E n4 c4) ∧ World.cell? W ⟨w.heap.size, 5, none⟩ = some (.slice F kk c5) ∧ World.cell? W ⟨w.heap.size + 1, 0, none⟩ = some (.int .i64 kd) ∧ World.cell? W ⟨w.heap.size + 1, 1, none⟩ = some (.int .i64 sv) ∧ World.cell? W ⟨w.heap.size + 1, 2, none⟩ = some (.int .i64 tt) ∧ World.cell? W ⟨w.heap.size + 1, 3, none⟩ = some (.int .i64 vw) ∧ World.cell? W ⟨w.heap.size + 1, 4, none⟩ = some (.int .i64 sl) ∧ World.cell? W ⟨w.heap.size + 1, 5, none⟩ = some (.int .i64 vl) ∧ World.cell? W ⟨w.heap.size + 1, 6, none⟩ = some (.int .i64 pk)) (by kernel_rfl) (by rw [hv]; exact hS0) (fun hHeld => ?_)
                rw [hv] at hHeld ⊢
                clear hv
                refine tkq 0 rfl (v := ?_) (.inl ⟨by rfl, ?_⟩) (by assumption) ?_
                rotate_left
                · intro W h; (try dsimp only at h); go_simp; try with_reducible rfl
                try simp only [Act.put,qk1,qk2,qk3,qk4,qk6]
                refine tkq 1 rfl (v := ?_) (.inl ⟨by rfl, ?_⟩) (by assumption) ?_
                rotate_left
                · intro W h; (try dsimp only at h); go_simp; try with_reducible rfl
                try simp only [Act.put,qk1,qk2,qk3,qk4,qk5,qk6]
                refine tkq 2 rfl (v := ?_) (.inl ⟨by rfl, ?_⟩) (by assumption) ?_
                rotate_left
                · intro W h; (try dsimp only at h); go_simp; try with_reducible rfl
                try simp only [Act.put,qk1,qk2,qk3,qk4,qk5,qk6]
                refine tkq 3 rfl (v := ?_) (.inl ⟨by rfl, ?_⟩) (by assumption) ?_
                rotate_left
                · intro W h; (try dsimp only at h); go_simp; try with_reducible rfl
                try simp only [Act.put,qk1,qk2,qk3,qk4,qk5,qk6]
                refine tkq 4 rfl (v := ?_) (.inl ⟨by rfl, ?_⟩) (by assumption) ?_
                rotate_left
                · intro W h; (try dsimp only at h); go_simp; try with_reducible rfl
                try simp only [Act.put,qk1,qk2,qk3,qk4,qk5,qk6]
                refine tkq 5 rfl (v := ?_) (.inl ⟨by rfl, ?_⟩) (by assumption) ?_
                rotate_left
                · intro W h; (try dsimp only at h); go_simp; try with_reducible rfl
                try simp only [Act.put,qk1,qk2,qk3,qk4,qk5,qk6]
                refine tkr 6 rfl (fun K hK => ?_)
                go_simp
                go_at_call 29
                refine (same_b (HI0.out _)).mono ?_
                rintro e v1 ⟨rfl, hs⟩
                have HX := hD (bz_on HX.out hs)
                clear hs
                go_wp2_with fail
                have hS1 : World.cell? v1 ⟨w.heap.size, 0, none⟩ = some (.slice A n c) ∧ World.cell? v1 ⟨w.heap.size, 1, none⟩ = some (.slice B n2 c2) ∧ World.cell? v1 ⟨w.heap.size, 2, none⟩ = some (.int .u16 u) ∧ World.cell? v1 ⟨w.heap.size, 3, none⟩ = some (.slice D n3 c3) ∧ World.cell? v1 ⟨w.heap.size, 4, none⟩ = some (.slice E n4 c4) ∧ World.cell? v1 ⟨w.heap.size, 5, none⟩ = some (.slice F kk c5) ∧ World.cell? v1 ⟨w.heap.size + 1, 0, none⟩ = some (.int .i64 kd) ∧ World.cell? v1 ⟨w.heap.size + 1, 1, none⟩ = some (.int .i64 sv) ∧ World.cell? v1 ⟨w.heap.size + 1, 2, none⟩ = some (.int .i64 tt) ∧ World.cell? v1 ⟨w.heap.size + 1, 3, none⟩ = some (.int .i64 vw) ∧ World.cell? v1 ⟨w.heap.size + 1, 4, none⟩ = some (.int .i64 sl) ∧ World.cell? v1 ⟨w.heap.size + 1, 5, none⟩ = some (.int .i64 vl) ∧ World.cell? v1 ⟨w.heap.size + 1, 6, none⟩ = some (.int .i64 pk) := ⟨bz_x HX.out 0 _ rfl, bz_x HX.out 1 _ rfl, bz_x HX.out 2 _ rfl, bz_x HX.out 3 _ rfl, bz_x HX.out 4 _ rfl, bz_x HX.out 5 _ rfl, bz_y HX.out 0 _ rfl, bz_y HX.out 1 _ rfl, bz_y HX.out 2 _ rfl, bz_y HX.out 3 _ rfl, bz_y HX.out 4 _ rfl, bz_y HX.out 5 _ rfl, bz_y HX.out 6 _ rfl⟩
                refine hK.out _ _ hS1 (fun hHeld => ?_)
                clear hK K
                try simp only [Act.put,qk1,qk2,qk3,qk4,qk5,qk6]
                refine tkq 7 rfl (v := ?_) (.inl ⟨by rfl, ?_⟩) (by assumption) ?_
                rotate_left
                · intro W h; (try dsimp only at h); go_simp; try with_reducible rfl
                try simp only [Act.put,qk1,qk2,qk3,qk4,qk5,qk6]
                refine tkq 8 rfl (v := ?_) (.inl ⟨by rfl, ?_⟩) (by assumption) ?_
                rotate_left
                · intro W h; (try dsimp only at h); go_simp; try with_reducible rfl
                try simp only [Act.put,qk1,qk2,qk3,qk4,qk5,qk6]
                refine tkq 9 rfl (v := ?_) (.inl ⟨by rfl, ?_⟩) (by assumption) ?_
                rotate_left
                · intro W h; (try dsimp only at h); go_simp; try with_reducible rfl
                try simp only [Act.put,qk1,qk2,qk3,qk4,qk5,qk6]
                refine tkq 10 rfl (v := ?_) (.inl ⟨by rfl, ?_⟩) (by assumption) ?_
                rotate_left
                · intro W h; (try dsimp only at h); go_simp; try with_reducible rfl
                try simp only [Act.put,qk1,qk2,qk3,qk4,qk5,qk6]
                refine tkq 11 rfl (v := ?_) (.inl ⟨by rfl, ?_⟩) (by assumption) ?_
                rotate_left
                · intro W h; (try dsimp only at h); go_simp; try with_reducible rfl
                try simp only [Act.put,qk1,qk2,qk3,qk4,qk5,qk6]
                refine tkr 12 rfl (fun K hK => ?_)
                go_simp
                go_at_call 30
                refine (same_b (HI1.out _)).mono ?_
                rintro e v2 ⟨rfl, hs⟩
                have HX := hD (bz_on HX.out hs)
                clear hs
                go_wp2_with fail
                have hS2 : World.cell? v2 ⟨w.heap.size, 0, none⟩ = some (.slice A n c) ∧ World.cell? v2 ⟨w.heap.size, 1, none⟩ = some (.slice B n2 c2) ∧ World.cell? v2 ⟨w.heap.size, 2, none⟩ = some (.int .u16 u) ∧ World.cell? v2 ⟨w.heap.size, 3, none⟩ = some (.slice D n3 c3) ∧ World.cell? v2 ⟨w.heap.size, 4, none⟩ = some (.slice E n4 c4) ∧ World.cell? v2 ⟨w.heap.size, 5, none⟩ = some (.slice F kk c5) ∧ World.cell? v2 ⟨w.heap.size + 1, 0, none⟩ = some (.int .i64 kd) ∧ World.cell? v2 ⟨w.heap.size + 1, 1, none⟩ = some (.int .i64 sv) ∧ World.cell? v2 ⟨w.heap.size + 1, 2, none⟩ = some (.int .i64 tt) ∧ World.cell? v2 ⟨w.heap.size + 1, 3, none⟩ = some (.int .i64 vw) ∧ World.cell? v2 ⟨w.heap.size + 1, 4, none⟩ = some (.int .i64 sl) ∧ World.cell? v2 ⟨w.heap.size + 1, 5, none⟩ = some (.int .i64 vl) ∧ World.cell? v2 ⟨w.heap.size + 1, 6, none⟩ = some (.int .i64 pk) := ⟨bz_x HX.out 0 _ rfl, bz_x HX.out 1 _ rfl, bz_x HX.out 2 _ rfl, bz_x HX.out 3 _ rfl, bz_x HX.out 4 _ rfl, bz_x HX.out 5 _ rfl, bz_y HX.out 0 _ rfl, bz_y HX.out 1 _ rfl, bz_y HX.out 2 _ rfl, bz_y HX.out 3 _ rfl, bz_y HX.out 4 _ rfl, bz_y HX.out 5 _ rfl, bz_y HX.out 6 _ rfl⟩
                refine hK.out _ _ hS2 (fun hHeld => ?_)
                clear hK K
                try simp only [Act.put,qk1,qk2,qk3,qk4,qk5,qk6]
                refine tkq 13 rfl (v := ?_) (.inl ⟨by rfl, ?_⟩) (by assumption) ?_
                rotate_left
                · intro W h; (try dsimp only at h); go_simp; try with_reducible rfl
                try simp only [Act.put,qk1,qk2,qk3,qk4,qk5,qk6]
                refine tkq 14 rfl (v := ?_) (.inl ⟨by rfl, ?_⟩) (by assumption) ?_
                rotate_left
                · intro W h; (try dsimp only at h); go_simp; try with_reducible rfl
                try simp only [Act.put,qk1,qk2,qk3,qk4,qk5,qk6]
                refine tkq 15 rfl (v := ?_) (.inl ⟨by rfl, ?_⟩) (by assumption) ?_
                rotate_left
                · intro W h; (try dsimp only at h); go_simp; try with_reducible rfl
                try simp only [Act.put,qk1,qk2,qk3,qk4,qk5,qk6]
                refine tkq 16 rfl (v := ?_) (.inl ⟨by rfl, ?_⟩) (by assumption) ?_
                rotate_left
                · intro W h; (try dsimp only at h); go_simp; try with_reducible rfl
                try simp only [Act.put,qk1,qk2,qk3,qk4,qk5,qk6]
                refine tkq 17 rfl (v := ?_) (.inl ⟨by rfl, ?_⟩) (by assumption) ?_
                rotate_left
                · intro W h; (try dsimp only at h); go_simp; try with_reducible rfl
                try simp only [Act.put,qk1,qk2,qk3,qk4,qk5,qk6]
                refine tkq 18 rfl (v := ?_) (.inl ⟨by rfl, ?_⟩) (by assumption) ?_
                rotate_left
                · intro W h; (try dsimp only at h); go_simp; try with_reducible rfl
                try simp only [Act.put,qk1,qk2,qk3,qk4,qk5,qk6]
                refine tkq 19 rfl (v := ?_) (.inl ⟨by rfl, ?_⟩) (by assumption) ?_
                rotate_left
                · intro W h; (try dsimp only at h); go_simp; try with_reducible rfl
                try simp only [Act.put,qk1,qk2,qk3,qk4,qk5,qk6]
                refine tkq 20 rfl (v := ?_) (.inl ⟨by rfl, ?_⟩) (by assumption) ?_
                rotate_left
                · intro W h; (try dsimp only at h); go_simp; try with_reducible rfl
                try simp only [Act.put,qk1,qk2,qk3,qk4,qk5,qk6]
                refine tkr 21 rfl (fun K hK => ?_)
                go_simp
                go_at_call 31
                refine (HRc.out _).mono ?_
                rintro e v3 ⟨rfl, hs⟩
                have HX := hD (bz_on HX.out hs)
                clear hs
                go_wp2_with fail
                have hS3 : World.cell? v3 ⟨w.heap.size, 0, none⟩ = some (.slice A n c) ∧ World.cell? v3 ⟨w.heap.size, 1, none⟩ = some (.slice B n2 c2) ∧ World.cell? v3 ⟨w.heap.size, 2, none⟩ = some (.int .u16 u) ∧ World.cell? v3 ⟨w.heap.size, 3, none⟩ = some (.slice D n3 c3) ∧ World.cell? v3 ⟨w.heap.size, 4, none⟩ = some (.slice E n4 c4) ∧ World.cell? v3 ⟨w.heap.size, 5, none⟩ = some (.slice F kk c5) ∧ World.cell? v3 ⟨w.heap.size + 1, 0, none⟩ = some (.int .i64 kd) ∧ World.cell? v3 ⟨w.heap.size + 1, 1, none⟩ = some (.int .i64 sv) ∧ World.cell? v3 ⟨w.heap.size + 1, 2, none⟩ = some (.int .i64 tt) ∧ World.cell? v3 ⟨w.heap.size + 1, 3, none⟩ = some (.int .i64 vw) ∧ World.cell? v3 ⟨w.heap.size + 1, 4, none⟩ = some (.int .i64 sl) ∧ World.cell? v3 ⟨w.heap.size + 1, 5, none⟩ = some (.int .i64 vl) ∧ World.cell? v3 ⟨w.heap.size + 1, 6, none⟩ = some (.int .i64 pk) := ⟨bz_x HX.out 0 _ rfl, bz_x HX.out 1 _ rfl, bz_x HX.out 2 _ rfl, bz_x HX.out 3 _ rfl, bz_x HX.out 4 _ rfl, bz_x HX.out 5 _ rfl, bz_y HX.out 0 _ rfl, bz_y HX.out 1 _ rfl, bz_y HX.out 2 _ rfl, bz_y HX.out 3 _ rfl, bz_y HX.out 4 _ rfl, bz_y HX.out 5 _ rfl, bz_y HX.out 6 _ rfl⟩
                refine hK.out _ _ hS3 (fun hHeld => ?_)
                clear hK K
                try simp only [Act.put,qk1,qk2,qk3,qk4,qk5,qk6]
                refine tkq 22 rfl (v := ?_) (.inl ⟨by rfl, ?_⟩) (by assumption) ?_
                rotate_left
                · intro W h; (try dsimp only at h); go_simp; try with_reducible rfl
                try simp only [Act.put,qk1,qk2,qk3,qk4,qk5,qk6]
                refine tkr 23 rfl (fun K hK => ?_)
                go_simp
                go_at_call 29
                refine (same_b (HI2.out _)).mono ?_
                rintro e v4 ⟨rfl, hs⟩
                have HX := hD (bz_on HX.out hs)
                clear hs
                go_wp2_with fail
                have hS4 : World.cell? v4 ⟨w.heap.size, 0, none⟩ = some (.slice A n c) ∧ World.cell? v4 ⟨w.heap.size, 1, none⟩ = some (.slice B n2 c2) ∧ World.cell? v4 ⟨w.heap.size, 2, none⟩ = some (.int .u16 u) ∧ World.cell? v4 ⟨w.heap.size, 3, none⟩ = some (.slice D n3 c3) ∧ World.cell? v4 ⟨w.heap.size, 4, none⟩ = some (.slice E n4 c4) ∧ World.cell? v4 ⟨w.heap.size, 5, none⟩ = some (.slice F kk c5) ∧ World.cell? v4 ⟨w.heap.size + 1, 0, none⟩ = some (.int .i64 kd) ∧ World.cell? v4 ⟨w.heap.size + 1, 1, none⟩ = some (.int .i64 sv) ∧ World.cell? v4 ⟨w.heap.size + 1, 2, none⟩ = some (.int .i64 tt) ∧ World.cell? v4 ⟨w.heap.size + 1, 3, none⟩ = some (.int .i64 vw) ∧ World.cell? v4 ⟨w.heap.size + 1, 4, none⟩ = some (.int .i64 sl) ∧ World.cell? v4 ⟨w.heap.size + 1, 5, none⟩ = some (.int .i64 vl) ∧ World.cell? v4 ⟨w.heap.size + 1, 6, none⟩ = some (.int .i64 pk) := ⟨bz_x HX.out 0 _ rfl, bz_x HX.out 1 _ rfl, bz_x HX.out 2 _ rfl, bz_x HX.out 3 _ rfl, bz_x HX.out 4 _ rfl, bz_x HX.out 5 _ rfl, bz_y HX.out 0 _ rfl, bz_y HX.out 1 _ rfl, bz_y HX.out 2 _ rfl, bz_y HX.out 3 _ rfl, bz_y HX.out 4 _ rfl, bz_y HX.out 5 _ rfl, bz_y HX.out 6 _ rfl⟩
                refine hK.out _ _ hS4 (fun hHeld => ?_)
                clear hK K
                try simp only [Act.put,qk1,qk2,qk3,qk4,qk5,qk6]
                refine tkq 24 rfl (v := ?_) (.inl ⟨by rfl, ?_⟩) (by assumption) ?_
                rotate_left
                · intro W h; (try dsimp only at h); go_simp; try with_reducible rfl
                try simp only [Act.put,qk1,qk2,qk3,qk4,qk5,qk6]
                refine tkq 25 rfl (v := ?_) (.inl ⟨by rfl, ?_⟩) (by assumption) ?_
                rotate_left
                · intro W h; (try dsimp only at h); go_simp; try with_reducible rfl
                try simp only [Act.put,qk1,qk2,qk3,qk4,qk5,qk6]
                refine wpAnyH_done (by kernel_rfl) ?_ _
                clear e1 e2
                have x3 := bz_y HX.out 3 _ rfl
                have x4 := bz_y HX.out 4 _ rfl
                have x5 := bz_y HX.out 5 _ rfl
                have x6 := bz_y HX.out 6 _ rfl
                have lx : w.heap.size + 1 < (World.heap v4).size := by have := bz_size HX.out; omega
                go_wp2_with fail
                refine (HI3.out _).mono ?_
                rintro e wj ⟨rfl, rfl⟩
                go_wp2_with fail
                refine (HI4.out _).mono ?_
                rintro e wj ⟨rfl, rfl⟩
                go_wp2_with fail
                go_ret
                exact ret_er HV.out (bz_low HX.out)
              · cases h5 : inR vl 0 1000000
                · have HV : Hid (vLi n kk s ⟨kd, sv, tt, vw, sl, vl, pk⟩ = 7) := hD (by rw [HVu.out, h5]; simp)
                  have HI0 : Hid (∀ W : World, Calls Tryz.prog 29 #[.int .i64 sv, .int .i64 0, .int .i64 n1] W (fun e w' => e = .returned (.bool true) ∧ W = w')) := hD (fun W => by rw [← h0]; exact inQ_any _ _ _ W)
                  have HI1 : Hid (∀ W : World, Calls Tryz.prog 30 #[.int .u16 (s : Int), .int .i64 sv] W (fun e w' => e = .returned (.bool true) ∧ W = w')) := hD (fun W => by rw [← h1, ← HBit.out h0]; exact has7_any s sv W hs)
                  have HI2 : Hid (∀ W : World, Calls Tryz.prog 29 #[.int .i64 tt, .int .i64 0, .int .i64 r1] W (fun e w' => e = .returned (.bool true) ∧ W = w')) := hD (fun W => by rw [← h2]; exact inQ_any _ _ _ W)
                  have HI3 : Hid (∀ W : World, Calls Tryz.prog 29 #[.int .i64 vw, .int .i64 1, .int .i64 1000000] W (fun e w' => e = .returned (.bool true) ∧ W = w')) := hD (fun W => by rw [← h3]; exact inQ_any _ _ _ W)
                  have HI4 : Hid (∀ W : World, Calls Tryz.prog 29 #[.int .i64 sl, .int .i64 0, .int .i64 1000000] W (fun e w' => e = .returned (.bool true) ∧ W = w')) := hD (fun W => by rw [← h4]; exact inQ_any _ _ _ W)
                  have HI5 : Hid (∀ W : World, Calls Tryz.prog 29 #[.int .i64 vl, .int .i64 0, .int .i64 1000000] W (fun e w' => e = .returned (.bool false) ∧ W = w')) := hD (fun W => by rw [← h5]; exact inQ_any _ _ _ W)
                  clear h0 h1 h2 h3 h4 h5
                  have HX : Hid (Bz w [.slice A n c, .slice B n2 c2, .int .u16 u, .slice D n3 c3, .slice E n4 c4, .slice F kk c5] 36 [.int .i64 kd, .int .i64 sv, .int .i64 tt, .int .i64 vw, .int .i64 sl, .int .i64 vl, .int .i64 pk] 28 wr.drew) := hD (bz_on HX.out (Below.refl _ _).drew)
                  generalize hv : wr.drew = v0 at HX
                  have hS0 : World.cell? v0 ⟨w.heap.size, 0, none⟩ = some (.slice A n c) ∧ World.cell? v0 ⟨w.heap.size, 1, none⟩ = some (.slice B n2 c2) ∧ World.cell? v0 ⟨w.heap.size, 2, none⟩ = some (.int .u16 u) ∧ World.cell? v0 ⟨w.heap.size, 3, none⟩ = some (.slice D n3 c3) ∧ World.cell? v0 ⟨w.heap.size, 4, none⟩ = some (.slice E n4 c4) ∧ World.cell? v0 ⟨w.heap.size, 5, none⟩ = some (.slice F kk c5) ∧ World.cell? v0 ⟨w.heap.size + 1, 0, none⟩ = some (.int .i64 kd) ∧ World.cell? v0 ⟨w.heap.size + 1, 1, none⟩ = some (.int .i64 sv) ∧ World.cell? v0 ⟨w.heap.size + 1, 2, none⟩ = some (.int .i64 tt) ∧ World.cell? v0 ⟨w.heap.size + 1, 3, none⟩ = some (.int .i64 vw) ∧ World.cell? v0 ⟨w.heap.size + 1, 4, none⟩ = some (.int .i64 sl) ∧ World.cell? v0 ⟨w.heap.size + 1, 5, none⟩ = some (.int .i64 vl) ∧ World.cell? v0 ⟨w.heap.size + 1, 6, none⟩ = some (.int .i64 pk) := ⟨bz_x HX.out 0 _ rfl, bz_x HX.out 1 _ rfl, bz_x HX.out 2 _ rfl, bz_x HX.out 3 _ rfl, bz_x HX.out 4 _ rfl, bz_x HX.out 5 _ rfl, bz_y HX.out 0 _ rfl, bz_y HX.out 1 _ rfl, bz_y HX.out 2 _ rfl, bz_y HX.out 3 _ rfl, bz_y HX.out 4 _ rfl, bz_y HX.out 5 _ rfl, bz_y HX.out 6 _ rfl⟩
                  refine wp_region_held_drew (S := fun W => World.cell? W ⟨w.heap.size, 0, none⟩ = some (.slice A n c) ∧ World.cell? W ⟨w.heap.size, 1, none⟩ = some (.slice B n2 c2) ∧ World.cell? W ⟨w.heap.size, 2, none⟩ = some (.int .u16 u) ∧ World.cell? W ⟨w.heap.size, 3, none⟩ = some (.slice D n3 c3) ∧ World.cell? W ⟨w.heap.size, 4, none⟩ = some (.slice E n4 c4) ∧ World.cell? W ⟨w.heap.size, 5, none⟩ = some (.slice F kk c5) ∧ World.cell? W ⟨w.heap.size + 1, 0, none⟩ = some (.int .i64 kd) ∧ World.cell? W ⟨w.heap.size + 1, 1, none⟩ = some (.int .i64 sv) ∧ World.cell? W ⟨w.heap.size + 1, 2, none⟩ = some (.int .i64 tt) ∧ World.cell? W ⟨w.heap.size + 1, 3, none⟩ = some (.int .i64 vw) ∧ World.cell? W ⟨w.heap.size + 1, 4, none⟩ = some (.int .i64 sl) ∧ World.cell? W ⟨w.heap.size + 1, 5, none⟩ = some (.int .i64 vl) ∧ World.cell? W ⟨w.heap.size + 1, 6, none⟩ = some (.int .i64 pk)) (by kernel_rfl) (by rw [hv]; exact hS0) (fun hHeld => ?_)
                  rw [hv] at hHeld ⊢
                  clear hv
                  refine tkq 0 rfl (v := ?_) (.inl ⟨by rfl, ?_⟩) (by assumption) ?_
                  rotate_left
                  · intro W h; (try dsimp only at h); go_simp; try with_reducible rfl
                  try simp only [Act.put,qk1,qk2,qk3,qk4,qk6]
                  refine tkq 1 rfl (v := ?_) (.inl ⟨by rfl, ?_⟩) (by assumption) ?_
                  rotate_left
                  · intro W h; (try dsimp only at h); go_simp; try with_reducible rfl
                  try simp only [Act.put,qk1,qk2,qk3,qk4,qk5,qk6]
                  refine tkq 2 rfl (v := ?_) (.inl ⟨by rfl, ?_⟩) (by assumption) ?_
                  rotate_left
                  · intro W h; (try dsimp only at h); go_simp; try with_reducible rfl
                  try simp only [Act.put,qk1,qk2,qk3,qk4,qk5,qk6]
                  refine tkq 3 rfl (v := ?_) (.inl ⟨by rfl, ?_⟩) (by assumption) ?_
                  rotate_left
                  · intro W h; (try dsimp only at h); go_simp; try with_reducible rfl
                  try simp only [Act.put,qk1,qk2,qk3,qk4,qk5,qk6]
                  refine tkq 4 rfl (v := ?_) (.inl ⟨by rfl, ?_⟩) (by assumption) ?_
                  rotate_left
                  · intro W h; (try dsimp only at h); go_simp; try with_reducible rfl
                  try simp only [Act.put,qk1,qk2,qk3,qk4,qk5,qk6]
                  refine tkq 5 rfl (v := ?_) (.inl ⟨by rfl, ?_⟩) (by assumption) ?_
                  rotate_left
                  · intro W h; (try dsimp only at h); go_simp; try with_reducible rfl
                  try simp only [Act.put,qk1,qk2,qk3,qk4,qk5,qk6]
                  refine tkr 6 rfl (fun K hK => ?_)
                  go_simp
                  go_at_call 29
                  refine (same_b (HI0.out _)).mono ?_
                  rintro e v1 ⟨rfl, hs⟩
                  have HX := hD (bz_on HX.out hs)
                  clear hs
                  go_wp2_with fail
                  have hS1 : World.cell? v1 ⟨w.heap.size, 0, none⟩ = some (.slice A n c) ∧ World.cell? v1 ⟨w.heap.size, 1, none⟩ = some (.slice B n2 c2) ∧ World.cell? v1 ⟨w.heap.size, 2, none⟩ = some (.int .u16 u) ∧ World.cell? v1 ⟨w.heap.size, 3, none⟩ = some (.slice D n3 c3) ∧ World.cell? v1 ⟨w.heap.size, 4, none⟩ = some (.slice E n4 c4) ∧ World.cell? v1 ⟨w.heap.size, 5, none⟩ = some (.slice F kk c5) ∧ World.cell? v1 ⟨w.heap.size + 1, 0, none⟩ = some (.int .i64 kd) ∧ World.cell? v1 ⟨w.heap.size + 1, 1, none⟩ = some (.int .i64 sv) ∧ World.cell? v1 ⟨w.heap.size + 1, 2, none⟩ = some (.int .i64 tt) ∧ World.cell? v1 ⟨w.heap.size + 1, 3, none⟩ = some (.int .i64 vw) ∧ World.cell? v1 ⟨w.heap.size + 1, 4, none⟩ = some (.int .i64 sl) ∧ World.cell? v1 ⟨w.heap.size + 1, 5, none⟩ = some (.int .i64 vl) ∧ World.cell? v1 ⟨w.heap.size + 1, 6, none⟩ = some (.int .i64 pk) := ⟨bz_x HX.out 0 _ rfl, bz_x HX.out 1 _ rfl, bz_x HX.out 2 _ rfl, bz_x HX.out 3 _ rfl, bz_x HX.out 4 _ rfl, bz_x HX.out 5 _ rfl, bz_y HX.out 0 _ rfl, bz_y HX.out 1 _ rfl, bz_y HX.out 2 _ rfl, bz_y HX.out 3 _ rfl, bz_y HX.out 4 _ rfl, bz_y HX.out 5 _ rfl, bz_y HX.out 6 _ rfl⟩
                  refine hK.out _ _ hS1 (fun hHeld => ?_)
                  clear hK K
                  try simp only [Act.put,qk1,qk2,qk3,qk4,qk5,qk6]
                  refine tkq 7 rfl (v := ?_) (.inl ⟨by rfl, ?_⟩) (by assumption) ?_
                  rotate_left
                  · intro W h; (try dsimp only at h); go_simp; try with_reducible rfl
                  try simp only [Act.put,qk1,qk2,qk3,qk4,qk5,qk6]
                  refine tkq 8 rfl (v := ?_) (.inl ⟨by rfl, ?_⟩) (by assumption) ?_
                  rotate_left
                  · intro W h; (try dsimp only at h); go_simp; try with_reducible rfl
                  try simp only [Act.put,qk1,qk2,qk3,qk4,qk5,qk6]
                  refine tkq 9 rfl (v := ?_) (.inl ⟨by rfl, ?_⟩) (by assumption) ?_
                  rotate_left
                  · intro W h; (try dsimp only at h); go_simp; try with_reducible rfl
                  try simp only [Act.put,qk1,qk2,qk3,qk4,qk5,qk6]
                  refine tkq 10 rfl (v := ?_) (.inl ⟨by rfl, ?_⟩) (by assumption) ?_
                  rotate_left
                  · intro W h; (try dsimp only at h); go_simp; try with_reducible rfl
                  try simp only [Act.put,qk1,qk2,qk3,qk4,qk5,qk6]
                  refine tkq 11 rfl (v := ?_) (.inl ⟨by rfl, ?_⟩) (by assumption) ?_
                  rotate_left
                  · intro W h; (try dsimp only at h); go_simp; try with_reducible rfl
                  try simp only [Act.put,qk1,qk2,qk3,qk4,qk5,qk6]
                  refine tkr 12 rfl (fun K hK => ?_)
                  go_simp
                  go_at_call 30
                  refine (same_b (HI1.out _)).mono ?_
                  rintro e v2 ⟨rfl, hs⟩
                  have HX := hD (bz_on HX.out hs)
                  clear hs
                  go_wp2_with fail
                  have hS2 : World.cell? v2 ⟨w.heap.size, 0, none⟩ = some (.slice A n c) ∧ World.cell? v2 ⟨w.heap.size, 1, none⟩ = some (.slice B n2 c2) ∧ World.cell? v2 ⟨w.heap.size, 2, none⟩ = some (.int .u16 u) ∧ World.cell? v2 ⟨w.heap.size, 3, none⟩ = some (.slice D n3 c3) ∧ World.cell? v2 ⟨w.heap.size, 4, none⟩ = some (.slice E n4 c4) ∧ World.cell? v2 ⟨w.heap.size, 5, none⟩ = some (.slice F kk c5) ∧ World.cell? v2 ⟨w.heap.size + 1, 0, none⟩ = some (.int .i64 kd) ∧ World.cell? v2 ⟨w.heap.size + 1, 1, none⟩ = some (.int .i64 sv) ∧ World.cell? v2 ⟨w.heap.size + 1, 2, none⟩ = some (.int .i64 tt) ∧ World.cell? v2 ⟨w.heap.size + 1, 3, none⟩ = some (.int .i64 vw) ∧ World.cell? v2 ⟨w.heap.size + 1, 4, none⟩ = some (.int .i64 sl) ∧ World.cell? v2 ⟨w.heap.size + 1, 5, none⟩ = some (.int .i64 vl) ∧ World.cell? v2 ⟨w.heap.size + 1, 6, none⟩ = some (.int .i64 pk) := ⟨bz_x HX.out 0 _ rfl, bz_x HX.out 1 _ rfl, bz_x HX.out 2 _ rfl, bz_x HX.out 3 _ rfl, bz_x HX.out 4 _ rfl, bz_x HX.out 5 _ rfl, bz_y HX.out 0 _ rfl, bz_y HX.out 1 _ rfl, bz_y HX.out 2 _ rfl, bz_y HX.out 3 _ rfl, bz_y HX.out 4 _ rfl, bz_y HX.out 5 _ rfl, bz_y HX.out 6 _ rfl⟩
                  refine hK.out _ _ hS2 (fun hHeld => ?_)
                  clear hK K
                  try simp only [Act.put,qk1,qk2,qk3,qk4,qk5,qk6]
                  refine tkq 13 rfl (v := ?_) (.inl ⟨by rfl, ?_⟩) (by assumption) ?_
                  rotate_left
                  · intro W h; (try dsimp only at h); go_simp; try with_reducible rfl
                  try simp only [Act.put,qk1,qk2,qk3,qk4,qk5,qk6]
                  refine tkq 14 rfl (v := ?_) (.inl ⟨by rfl, ?_⟩) (by assumption) ?_
                  rotate_left
                  · intro W h; (try dsimp only at h); go_simp; try with_reducible rfl
                  try simp only [Act.put,qk1,qk2,qk3,qk4,qk5,qk6]
                  refine tkq 15 rfl (v := ?_) (.inl ⟨by rfl, ?_⟩) (by assumption) ?_
                  rotate_left
                  · intro W h; (try dsimp only at h); go_simp; try with_reducible rfl
                  try simp only [Act.put,qk1,qk2,qk3,qk4,qk5,qk6]
                  refine tkq 16 rfl (v := ?_) (.inl ⟨by rfl, ?_⟩) (by assumption) ?_
                  rotate_left
                  · intro W h; (try dsimp only at h); go_simp; try with_reducible rfl
                  try simp only [Act.put,qk1,qk2,qk3,qk4,qk5,qk6]
                  refine tkq 17 rfl (v := ?_) (.inl ⟨by rfl, ?_⟩) (by assumption) ?_
                  rotate_left
                  · intro W h; (try dsimp only at h); go_simp; try with_reducible rfl
                  try simp only [Act.put,qk1,qk2,qk3,qk4,qk5,qk6]
                  refine tkq 18 rfl (v := ?_) (.inl ⟨by rfl, ?_⟩) (by assumption) ?_
                  rotate_left
                  · intro W h; (try dsimp only at h); go_simp; try with_reducible rfl
                  try simp only [Act.put,qk1,qk2,qk3,qk4,qk5,qk6]
                  refine tkq 19 rfl (v := ?_) (.inl ⟨by rfl, ?_⟩) (by assumption) ?_
                  rotate_left
                  · intro W h; (try dsimp only at h); go_simp; try with_reducible rfl
                  try simp only [Act.put,qk1,qk2,qk3,qk4,qk5,qk6]
                  refine tkq 20 rfl (v := ?_) (.inl ⟨by rfl, ?_⟩) (by assumption) ?_
                  rotate_left
                  · intro W h; (try dsimp only at h); go_simp; try with_reducible rfl
                  try simp only [Act.put,qk1,qk2,qk3,qk4,qk5,qk6]
                  refine tkr 21 rfl (fun K hK => ?_)
                  go_simp
                  go_at_call 31
                  refine (HRc.out _).mono ?_
                  rintro e v3 ⟨rfl, hs⟩
                  have HX := hD (bz_on HX.out hs)
                  clear hs
                  go_wp2_with fail
                  have hS3 : World.cell? v3 ⟨w.heap.size, 0, none⟩ = some (.slice A n c) ∧ World.cell? v3 ⟨w.heap.size, 1, none⟩ = some (.slice B n2 c2) ∧ World.cell? v3 ⟨w.heap.size, 2, none⟩ = some (.int .u16 u) ∧ World.cell? v3 ⟨w.heap.size, 3, none⟩ = some (.slice D n3 c3) ∧ World.cell? v3 ⟨w.heap.size, 4, none⟩ = some (.slice E n4 c4) ∧ World.cell? v3 ⟨w.heap.size, 5, none⟩ = some (.slice F kk c5) ∧ World.cell? v3 ⟨w.heap.size + 1, 0, none⟩ = some (.int .i64 kd) ∧ World.cell? v3 ⟨w.heap.size + 1, 1, none⟩ = some (.int .i64 sv) ∧ World.cell? v3 ⟨w.heap.size + 1, 2, none⟩ = some (.int .i64 tt) ∧ World.cell? v3 ⟨w.heap.size + 1, 3, none⟩ = some (.int .i64 vw) ∧ World.cell? v3 ⟨w.heap.size + 1, 4, none⟩ = some (.int .i64 sl) ∧ World.cell? v3 ⟨w.heap.size + 1, 5, none⟩ = some (.int .i64 vl) ∧ World.cell? v3 ⟨w.heap.size + 1, 6, none⟩ = some (.int .i64 pk) := ⟨bz_x HX.out 0 _ rfl, bz_x HX.out 1 _ rfl, bz_x HX.out 2 _ rfl, bz_x HX.out 3 _ rfl, bz_x HX.out 4 _ rfl, bz_x HX.out 5 _ rfl, bz_y HX.out 0 _ rfl, bz_y HX.out 1 _ rfl, bz_y HX.out 2 _ rfl, bz_y HX.out 3 _ rfl, bz_y HX.out 4 _ rfl, bz_y HX.out 5 _ rfl, bz_y HX.out 6 _ rfl⟩
                  refine hK.out _ _ hS3 (fun hHeld => ?_)
                  clear hK K
                  try simp only [Act.put,qk1,qk2,qk3,qk4,qk5,qk6]
                  refine tkq 22 rfl (v := ?_) (.inl ⟨by rfl, ?_⟩) (by assumption) ?_
                  rotate_left
                  · intro W h; (try dsimp only at h); go_simp; try with_reducible rfl
                  try simp only [Act.put,qk1,qk2,qk3,qk4,qk5,qk6]
                  refine tkr 23 rfl (fun K hK => ?_)
                  go_simp
                  go_at_call 29
                  refine (same_b (HI2.out _)).mono ?_
                  rintro e v4 ⟨rfl, hs⟩
                  have HX := hD (bz_on HX.out hs)
                  clear hs
                  go_wp2_with fail
                  have hS4 : World.cell? v4 ⟨w.heap.size, 0, none⟩ = some (.slice A n c) ∧ World.cell? v4 ⟨w.heap.size, 1, none⟩ = some (.slice B n2 c2) ∧ World.cell? v4 ⟨w.heap.size, 2, none⟩ = some (.int .u16 u) ∧ World.cell? v4 ⟨w.heap.size, 3, none⟩ = some (.slice D n3 c3) ∧ World.cell? v4 ⟨w.heap.size, 4, none⟩ = some (.slice E n4 c4) ∧ World.cell? v4 ⟨w.heap.size, 5, none⟩ = some (.slice F kk c5) ∧ World.cell? v4 ⟨w.heap.size + 1, 0, none⟩ = some (.int .i64 kd) ∧ World.cell? v4 ⟨w.heap.size + 1, 1, none⟩ = some (.int .i64 sv) ∧ World.cell? v4 ⟨w.heap.size + 1, 2, none⟩ = some (.int .i64 tt) ∧ World.cell? v4 ⟨w.heap.size + 1, 3, none⟩ = some (.int .i64 vw) ∧ World.cell? v4 ⟨w.heap.size + 1, 4, none⟩ = some (.int .i64 sl) ∧ World.cell? v4 ⟨w.heap.size + 1, 5, none⟩ = some (.int .i64 vl) ∧ World.cell? v4 ⟨w.heap.size + 1, 6, none⟩ = some (.int .i64 pk) := ⟨bz_x HX.out 0 _ rfl, bz_x HX.out 1 _ rfl, bz_x HX.out 2 _ rfl, bz_x HX.out 3 _ rfl, bz_x HX.out 4 _ rfl, bz_x HX.out 5 _ rfl, bz_y HX.out 0 _ rfl, bz_y HX.out 1 _ rfl, bz_y HX.out 2 _ rfl, bz_y HX.out 3 _ rfl, bz_y HX.out 4 _ rfl, bz_y HX.out 5 _ rfl, bz_y HX.out 6 _ rfl⟩
                  refine hK.out _ _ hS4 (fun hHeld => ?_)
                  clear hK K
                  try simp only [Act.put,qk1,qk2,qk3,qk4,qk5,qk6]
                  refine tkq 24 rfl (v := ?_) (.inl ⟨by rfl, ?_⟩) (by assumption) ?_
                  rotate_left
                  · intro W h; (try dsimp only at h); go_simp; try with_reducible rfl
                  try simp only [Act.put,qk1,qk2,qk3,qk4,qk5,qk6]
                  refine tkq 25 rfl (v := ?_) (.inl ⟨by rfl, ?_⟩) (by assumption) ?_
                  rotate_left
                  · intro W h; (try dsimp only at h); go_simp; try with_reducible rfl
                  try simp only [Act.put,qk1,qk2,qk3,qk4,qk5,qk6]
                  refine wpAnyH_done (by kernel_rfl) ?_ _
                  clear e1 e2
                  have x3 := bz_y HX.out 3 _ rfl
                  have x4 := bz_y HX.out 4 _ rfl
                  have x5 := bz_y HX.out 5 _ rfl
                  have x6 := bz_y HX.out 6 _ rfl
                  have lx : w.heap.size + 1 < (World.heap v4).size := by have := bz_size HX.out; omega
                  go_wp2_with fail
                  refine (HI3.out _).mono ?_
                  rintro e wj ⟨rfl, rfl⟩
                  go_wp2_with fail
                  refine (HI4.out _).mono ?_
                  rintro e wj ⟨rfl, rfl⟩
                  go_wp2_with fail
                  refine (HI5.out _).mono ?_
                  rintro e wj ⟨rfl, rfl⟩
                  go_wp2_with fail
                  go_ret
                  exact ret_er HV.out (bz_low HX.out)
                · cases h6 : inR pk 0 65535
                  · have HV : Hid (vLi n kk s ⟨kd, sv, tt, vw, sl, vl, pk⟩ = 7) := hD (by rw [HVu.out, h6]; simp)
                    have HI0 : Hid (∀ W : World, Calls Tryz.prog 29 #[.int .i64 sv, .int .i64 0, .int .i64 n1] W (fun e w' => e = .returned (.bool true) ∧ W = w')) := hD (fun W => by rw [← h0]; exact inQ_any _ _ _ W)
                    have HI1 : Hid (∀ W : World, Calls Tryz.prog 30 #[.int .u16 (s : Int), .int .i64 sv] W (fun e w' => e = .returned (.bool true) ∧ W = w')) := hD (fun W => by rw [← h1, ← HBit.out h0]; exact has7_any s sv W hs)
                    have HI2 : Hid (∀ W : World, Calls Tryz.prog 29 #[.int .i64 tt, .int .i64 0, .int .i64 r1] W (fun e w' => e = .returned (.bool true) ∧ W = w')) := hD (fun W => by rw [← h2]; exact inQ_any _ _ _ W)
                    have HI3 : Hid (∀ W : World, Calls Tryz.prog 29 #[.int .i64 vw, .int .i64 1, .int .i64 1000000] W (fun e w' => e = .returned (.bool true) ∧ W = w')) := hD (fun W => by rw [← h3]; exact inQ_any _ _ _ W)
                    have HI4 : Hid (∀ W : World, Calls Tryz.prog 29 #[.int .i64 sl, .int .i64 0, .int .i64 1000000] W (fun e w' => e = .returned (.bool true) ∧ W = w')) := hD (fun W => by rw [← h4]; exact inQ_any _ _ _ W)
                    have HI5 : Hid (∀ W : World, Calls Tryz.prog 29 #[.int .i64 vl, .int .i64 0, .int .i64 1000000] W (fun e w' => e = .returned (.bool true) ∧ W = w')) := hD (fun W => by rw [← h5]; exact inQ_any _ _ _ W)
                    have HI6 : Hid (∀ W : World, Calls Tryz.prog 29 #[.int .i64 pk, .int .i64 0, .int .i64 65535] W (fun e w' => e = .returned (.bool false) ∧ W = w')) := hD (fun W => by rw [← h6]; exact inQ_any _ _ _ W)
                    clear h0 h1 h2 h3 h4 h5 h6
                    have HX : Hid (Bz w [.slice A n c, .slice B n2 c2, .int .u16 u, .slice D n3 c3, .slice E n4 c4, .slice F kk c5] 36 [.int .i64 kd, .int .i64 sv, .int .i64 tt, .int .i64 vw, .int .i64 sl, .int .i64 vl, .int .i64 pk] 28 wr.drew) := hD (bz_on HX.out (Below.refl _ _).drew)
                    generalize hv : wr.drew = v0 at HX
                    have hS0 : World.cell? v0 ⟨w.heap.size, 0, none⟩ = some (.slice A n c) ∧ World.cell? v0 ⟨w.heap.size, 1, none⟩ = some (.slice B n2 c2) ∧ World.cell? v0 ⟨w.heap.size, 2, none⟩ = some (.int .u16 u) ∧ World.cell? v0 ⟨w.heap.size, 3, none⟩ = some (.slice D n3 c3) ∧ World.cell? v0 ⟨w.heap.size, 4, none⟩ = some (.slice E n4 c4) ∧ World.cell? v0 ⟨w.heap.size, 5, none⟩ = some (.slice F kk c5) ∧ World.cell? v0 ⟨w.heap.size + 1, 0, none⟩ = some (.int .i64 kd) ∧ World.cell? v0 ⟨w.heap.size + 1, 1, none⟩ = some (.int .i64 sv) ∧ World.cell? v0 ⟨w.heap.size + 1, 2, none⟩ = some (.int .i64 tt) ∧ World.cell? v0 ⟨w.heap.size + 1, 3, none⟩ = some (.int .i64 vw) ∧ World.cell? v0 ⟨w.heap.size + 1, 4, none⟩ = some (.int .i64 sl) ∧ World.cell? v0 ⟨w.heap.size + 1, 5, none⟩ = some (.int .i64 vl) ∧ World.cell? v0 ⟨w.heap.size + 1, 6, none⟩ = some (.int .i64 pk) := ⟨bz_x HX.out 0 _ rfl, bz_x HX.out 1 _ rfl, bz_x HX.out 2 _ rfl, bz_x HX.out 3 _ rfl, bz_x HX.out 4 _ rfl, bz_x HX.out 5 _ rfl, bz_y HX.out 0 _ rfl, bz_y HX.out 1 _ rfl, bz_y HX.out 2 _ rfl, bz_y HX.out 3 _ rfl, bz_y HX.out 4 _ rfl, bz_y HX.out 5 _ rfl, bz_y HX.out 6 _ rfl⟩
                    refine wp_region_held_drew (S := fun W => World.cell? W ⟨w.heap.size, 0, none⟩ = some (.slice A n c) ∧ World.cell? W ⟨w.heap.size, 1, none⟩ = some (.slice B n2 c2) ∧ World.cell? W ⟨w.heap.size, 2, none⟩ = some (.int .u16 u) ∧ World.cell? W ⟨w.heap.size, 3, none⟩ = some (.slice D n3 c3) ∧ World.cell? W ⟨w.heap.size, 4, none⟩ = some (.slice E n4 c4) ∧ World.cell? W ⟨w.heap.size, 5, none⟩ = some (.slice F kk c5) ∧ World.cell? W ⟨w.heap.size + 1, 0, none⟩ = some (.int .i64 kd) ∧ World.cell? W ⟨w.heap.size + 1, 1, none⟩ = some (.int .i64 sv) ∧ World.cell? W ⟨w.heap.size + 1, 2, none⟩ = some (.int .i64 tt) ∧ World.cell? W ⟨w.heap.size + 1, 3, none⟩ = some (.int .i64 vw) ∧ World.cell? W ⟨w.heap.size + 1, 4, none⟩ = some (.int .i64 sl) ∧ World.cell? W ⟨w.heap.size + 1, 5, none⟩ = some (.int .i64 vl) ∧ World.cell? W ⟨w.heap.size + 1, 6, none⟩ = some (.int .i64 pk)) (by kernel_rfl) (by rw [hv]; exact hS0) (fun hHeld => ?_)
                    rw [hv] at hHeld ⊢
                    clear hv
                    refine tkq 0 rfl (v := ?_) (.inl ⟨by rfl, ?_⟩) (by assumption) ?_
                    rotate_left
                    · intro W h; (try dsimp only at h); go_simp; try with_reducible rfl
                    try simp only [Act.put,qk1,qk2,qk3,qk4,qk6]
                    refine tkq 1 rfl (v := ?_) (.inl ⟨by rfl, ?_⟩) (by assumption) ?_
                    rotate_left
                    · intro W h; (try dsimp only at h); go_simp; try with_reducible rfl
                    try simp only [Act.put,qk1,qk2,qk3,qk4,qk5,qk6]
                    refine tkq 2 rfl (v := ?_) (.inl ⟨by rfl, ?_⟩) (by assumption) ?_
                    rotate_left
                    · intro W h; (try dsimp only at h); go_simp; try with_reducible rfl
                    try simp only [Act.put,qk1,qk2,qk3,qk4,qk5,qk6]
                    refine tkq 3 rfl (v := ?_) (.inl ⟨by rfl, ?_⟩) (by assumption) ?_
                    rotate_left
                    · intro W h; (try dsimp only at h); go_simp; try with_reducible rfl
                    try simp only [Act.put,qk1,qk2,qk3,qk4,qk5,qk6]
                    refine tkq 4 rfl (v := ?_) (.inl ⟨by rfl, ?_⟩) (by assumption) ?_
                    rotate_left
                    · intro W h; (try dsimp only at h); go_simp; try with_reducible rfl
                    try simp only [Act.put,qk1,qk2,qk3,qk4,qk5,qk6]
                    refine tkq 5 rfl (v := ?_) (.inl ⟨by rfl, ?_⟩) (by assumption) ?_
                    rotate_left
                    · intro W h; (try dsimp only at h); go_simp; try with_reducible rfl
                    try simp only [Act.put,qk1,qk2,qk3,qk4,qk5,qk6]
                    refine tkr 6 rfl (fun K hK => ?_)
                    go_simp
                    go_at_call 29
                    refine (same_b (HI0.out _)).mono ?_
                    rintro e v1 ⟨rfl, hs⟩
                    have HX := hD (bz_on HX.out hs)
                    clear hs
                    go_wp2_with fail
                    have hS1 : World.cell? v1 ⟨w.heap.size, 0, none⟩ = some (.slice A n c) ∧ World.cell? v1 ⟨w.heap.size, 1, none⟩ = some (.slice B n2 c2) ∧ World.cell? v1 ⟨w.heap.size, 2, none⟩ = some (.int .u16 u) ∧ World.cell? v1 ⟨w.heap.size, 3, none⟩ = some (.slice D n3 c3) ∧ World.cell? v1 ⟨w.heap.size, 4, none⟩ = some (.slice E n4 c4) ∧ World.cell? v1 ⟨w.heap.size, 5, none⟩ = some (.slice F kk c5) ∧ World.cell? v1 ⟨w.heap.size + 1, 0, none⟩ = some (.int .i64 kd) ∧ World.cell? v1 ⟨w.heap.size + 1, 1, none⟩ = some (.int .i64 sv) ∧ World.cell? v1 ⟨w.heap.size + 1, 2, none⟩ = some (.int .i64 tt) ∧ World.cell? v1 ⟨w.heap.size + 1, 3, none⟩ = some (.int .i64 vw) ∧ World.cell? v1 ⟨w.heap.size + 1, 4, none⟩ = some (.int .i64 sl) ∧ World.cell? v1 ⟨w.heap.size + 1, 5, none⟩ = some (.int .i64 vl) ∧ World.cell? v1 ⟨w.heap.size + 1, 6, none⟩ = some (.int .i64 pk) := ⟨bz_x HX.out 0 _ rfl, bz_x HX.out 1 _ rfl, bz_x HX.out 2 _ rfl, bz_x HX.out 3 _ rfl, bz_x HX.out 4 _ rfl, bz_x HX.out 5 _ rfl, bz_y HX.out 0 _ rfl, bz_y HX.out 1 _ rfl, bz_y HX.out 2 _ rfl, bz_y HX.out 3 _ rfl, bz_y HX.out 4 _ rfl, bz_y HX.out 5 _ rfl, bz_y HX.out 6 _ rfl⟩
                    refine hK.out _ _ hS1 (fun hHeld => ?_)
                    clear hK K
                    try simp only [Act.put,qk1,qk2,qk3,qk4,qk5,qk6]
                    refine tkq 7 rfl (v := ?_) (.inl ⟨by rfl, ?_⟩) (by assumption) ?_
                    rotate_left
                    · intro W h; (try dsimp only at h); go_simp; try with_reducible rfl
                    try simp only [Act.put,qk1,qk2,qk3,qk4,qk5,qk6]
                    refine tkq 8 rfl (v := ?_) (.inl ⟨by rfl, ?_⟩) (by assumption) ?_
                    rotate_left
                    · intro W h; (try dsimp only at h); go_simp; try with_reducible rfl
                    try simp only [Act.put,qk1,qk2,qk3,qk4,qk5,qk6]
                    refine tkq 9 rfl (v := ?_) (.inl ⟨by rfl, ?_⟩) (by assumption) ?_
                    rotate_left
                    · intro W h; (try dsimp only at h); go_simp; try with_reducible rfl
                    try simp only [Act.put,qk1,qk2,qk3,qk4,qk5,qk6]
                    refine tkq 10 rfl (v := ?_) (.inl ⟨by rfl, ?_⟩) (by assumption) ?_
                    rotate_left
                    · intro W h; (try dsimp only at h); go_simp; try with_reducible rfl
                    try simp only [Act.put,qk1,qk2,qk3,qk4,qk5,qk6]
                    refine tkq 11 rfl (v := ?_) (.inl ⟨by rfl, ?_⟩) (by assumption) ?_
                    rotate_left
                    · intro W h; (try dsimp only at h); go_simp; try with_reducible rfl
                    try simp only [Act.put,qk1,qk2,qk3,qk4,qk5,qk6]
                    refine tkr 12 rfl (fun K hK => ?_)
                    go_simp
                    go_at_call 30
                    refine (same_b (HI1.out _)).mono ?_
                    rintro e v2 ⟨rfl, hs⟩
                    have HX := hD (bz_on HX.out hs)
                    clear hs
                    go_wp2_with fail
                    have hS2 : World.cell? v2 ⟨w.heap.size, 0, none⟩ = some (.slice A n c) ∧ World.cell? v2 ⟨w.heap.size, 1, none⟩ = some (.slice B n2 c2) ∧ World.cell? v2 ⟨w.heap.size, 2, none⟩ = some (.int .u16 u) ∧ World.cell? v2 ⟨w.heap.size, 3, none⟩ = some (.slice D n3 c3) ∧ World.cell? v2 ⟨w.heap.size, 4, none⟩ = some (.slice E n4 c4) ∧ World.cell? v2 ⟨w.heap.size, 5, none⟩ = some (.slice F kk c5) ∧ World.cell? v2 ⟨w.heap.size + 1, 0, none⟩ = some (.int .i64 kd) ∧ World.cell? v2 ⟨w.heap.size + 1, 1, none⟩ = some (.int .i64 sv) ∧ World.cell? v2 ⟨w.heap.size + 1, 2, none⟩ = some (.int .i64 tt) ∧ World.cell? v2 ⟨w.heap.size + 1, 3, none⟩ = some (.int .i64 vw) ∧ World.cell? v2 ⟨w.heap.size + 1, 4, none⟩ = some (.int .i64 sl) ∧ World.cell? v2 ⟨w.heap.size + 1, 5, none⟩ = some (.int .i64 vl) ∧ World.cell? v2 ⟨w.heap.size + 1, 6, none⟩ = some (.int .i64 pk) := ⟨bz_x HX.out 0 _ rfl, bz_x HX.out 1 _ rfl, bz_x HX.out 2 _ rfl, bz_x HX.out 3 _ rfl, bz_x HX.out 4 _ rfl, bz_x HX.out 5 _ rfl, bz_y HX.out 0 _ rfl, bz_y HX.out 1 _ rfl, bz_y HX.out 2 _ rfl, bz_y HX.out 3 _ rfl, bz_y HX.out 4 _ rfl, bz_y HX.out 5 _ rfl, bz_y HX.out 6 _ rfl⟩
                    refine hK.out _ _ hS2 (fun hHeld => ?_)
                    clear hK K
                    try simp only [Act.put,qk1,qk2,qk3,qk4,qk5,qk6]
                    refine tkq 13 rfl (v := ?_) (.inl ⟨by rfl, ?_⟩) (by assumption) ?_
                    rotate_left
                    · intro W h; (try dsimp only at h); go_simp; try with_reducible rfl
                    try simp only [Act.put,qk1,qk2,qk3,qk4,qk5,qk6]
                    refine tkq 14 rfl (v := ?_) (.inl ⟨by rfl, ?_⟩) (by assumption) ?_
                    rotate_left
                    · intro W h; (try dsimp only at h); go_simp; try with_reducible rfl
                    try simp only [Act.put,qk1,qk2,qk3,qk4,qk5,qk6]
                    refine tkq 15 rfl (v := ?_) (.inl ⟨by rfl, ?_⟩) (by assumption) ?_
                    rotate_left
                    · intro W h; (try dsimp only at h); go_simp; try with_reducible rfl
                    try simp only [Act.put,qk1,qk2,qk3,qk4,qk5,qk6]
                    refine tkq 16 rfl (v := ?_) (.inl ⟨by rfl, ?_⟩) (by assumption) ?_
                    rotate_left
                    · intro W h; (try dsimp only at h); go_simp; try with_reducible rfl
                    try simp only [Act.put,qk1,qk2,qk3,qk4,qk5,qk6]
                    refine tkq 17 rfl (v := ?_) (.inl ⟨by rfl, ?_⟩) (by assumption) ?_
                    rotate_left
                    · intro W h; (try dsimp only at h); go_simp; try with_reducible rfl
                    try simp only [Act.put,qk1,qk2,qk3,qk4,qk5,qk6]
                    refine tkq 18 rfl (v := ?_) (.inl ⟨by rfl, ?_⟩) (by assumption) ?_
                    rotate_left
                    · intro W h; (try dsimp only at h); go_simp; try with_reducible rfl
                    try simp only [Act.put,qk1,qk2,qk3,qk4,qk5,qk6]
                    refine tkq 19 rfl (v := ?_) (.inl ⟨by rfl, ?_⟩) (by assumption) ?_
                    rotate_left
                    · intro W h; (try dsimp only at h); go_simp; try with_reducible rfl
                    try simp only [Act.put,qk1,qk2,qk3,qk4,qk5,qk6]
                    refine tkq 20 rfl (v := ?_) (.inl ⟨by rfl, ?_⟩) (by assumption) ?_
                    rotate_left
                    · intro W h; (try dsimp only at h); go_simp; try with_reducible rfl
                    try simp only [Act.put,qk1,qk2,qk3,qk4,qk5,qk6]
                    refine tkr 21 rfl (fun K hK => ?_)
                    go_simp
                    go_at_call 31
                    refine (HRc.out _).mono ?_
                    rintro e v3 ⟨rfl, hs⟩
                    have HX := hD (bz_on HX.out hs)
                    clear hs
                    go_wp2_with fail
                    have hS3 : World.cell? v3 ⟨w.heap.size, 0, none⟩ = some (.slice A n c) ∧ World.cell? v3 ⟨w.heap.size, 1, none⟩ = some (.slice B n2 c2) ∧ World.cell? v3 ⟨w.heap.size, 2, none⟩ = some (.int .u16 u) ∧ World.cell? v3 ⟨w.heap.size, 3, none⟩ = some (.slice D n3 c3) ∧ World.cell? v3 ⟨w.heap.size, 4, none⟩ = some (.slice E n4 c4) ∧ World.cell? v3 ⟨w.heap.size, 5, none⟩ = some (.slice F kk c5) ∧ World.cell? v3 ⟨w.heap.size + 1, 0, none⟩ = some (.int .i64 kd) ∧ World.cell? v3 ⟨w.heap.size + 1, 1, none⟩ = some (.int .i64 sv) ∧ World.cell? v3 ⟨w.heap.size + 1, 2, none⟩ = some (.int .i64 tt) ∧ World.cell? v3 ⟨w.heap.size + 1, 3, none⟩ = some (.int .i64 vw) ∧ World.cell? v3 ⟨w.heap.size + 1, 4, none⟩ = some (.int .i64 sl) ∧ World.cell? v3 ⟨w.heap.size + 1, 5, none⟩ = some (.int .i64 vl) ∧ World.cell? v3 ⟨w.heap.size + 1, 6, none⟩ = some (.int .i64 pk) := ⟨bz_x HX.out 0 _ rfl, bz_x HX.out 1 _ rfl, bz_x HX.out 2 _ rfl, bz_x HX.out 3 _ rfl, bz_x HX.out 4 _ rfl, bz_x HX.out 5 _ rfl, bz_y HX.out 0 _ rfl, bz_y HX.out 1 _ rfl, bz_y HX.out 2 _ rfl, bz_y HX.out 3 _ rfl, bz_y HX.out 4 _ rfl, bz_y HX.out 5 _ rfl, bz_y HX.out 6 _ rfl⟩
                    refine hK.out _ _ hS3 (fun hHeld => ?_)
                    clear hK K
                    try simp only [Act.put,qk1,qk2,qk3,qk4,qk5,qk6]
                    refine tkq 22 rfl (v := ?_) (.inl ⟨by rfl, ?_⟩) (by assumption) ?_
                    rotate_left
                    · intro W h; (try dsimp only at h); go_simp; try with_reducible rfl
                    try simp only [Act.put,qk1,qk2,qk3,qk4,qk5,qk6]
                    refine tkr 23 rfl (fun K hK => ?_)
                    go_simp
                    go_at_call 29
                    refine (same_b (HI2.out _)).mono ?_
                    rintro e v4 ⟨rfl, hs⟩
                    have HX := hD (bz_on HX.out hs)
                    clear hs
                    go_wp2_with fail
                    have hS4 : World.cell? v4 ⟨w.heap.size, 0, none⟩ = some (.slice A n c) ∧ World.cell? v4 ⟨w.heap.size, 1, none⟩ = some (.slice B n2 c2) ∧ World.cell? v4 ⟨w.heap.size, 2, none⟩ = some (.int .u16 u) ∧ World.cell? v4 ⟨w.heap.size, 3, none⟩ = some (.slice D n3 c3) ∧ World.cell? v4 ⟨w.heap.size, 4, none⟩ = some (.slice E n4 c4) ∧ World.cell? v4 ⟨w.heap.size, 5, none⟩ = some (.slice F kk c5) ∧ World.cell? v4 ⟨w.heap.size + 1, 0, none⟩ = some (.int .i64 kd) ∧ World.cell? v4 ⟨w.heap.size + 1, 1, none⟩ = some (.int .i64 sv) ∧ World.cell? v4 ⟨w.heap.size + 1, 2, none⟩ = some (.int .i64 tt) ∧ World.cell? v4 ⟨w.heap.size + 1, 3, none⟩ = some (.int .i64 vw) ∧ World.cell? v4 ⟨w.heap.size + 1, 4, none⟩ = some (.int .i64 sl) ∧ World.cell? v4 ⟨w.heap.size + 1, 5, none⟩ = some (.int .i64 vl) ∧ World.cell? v4 ⟨w.heap.size + 1, 6, none⟩ = some (.int .i64 pk) := ⟨bz_x HX.out 0 _ rfl, bz_x HX.out 1 _ rfl, bz_x HX.out 2 _ rfl, bz_x HX.out 3 _ rfl, bz_x HX.out 4 _ rfl, bz_x HX.out 5 _ rfl, bz_y HX.out 0 _ rfl, bz_y HX.out 1 _ rfl, bz_y HX.out 2 _ rfl, bz_y HX.out 3 _ rfl, bz_y HX.out 4 _ rfl, bz_y HX.out 5 _ rfl, bz_y HX.out 6 _ rfl⟩
                    refine hK.out _ _ hS4 (fun hHeld => ?_)
                    clear hK K
                    try simp only [Act.put,qk1,qk2,qk3,qk4,qk5,qk6]
                    refine tkq 24 rfl (v := ?_) (.inl ⟨by rfl, ?_⟩) (by assumption) ?_
                    rotate_left
                    · intro W h; (try dsimp only at h); go_simp; try with_reducible rfl
                    try simp only [Act.put,qk1,qk2,qk3,qk4,qk5,qk6]
                    refine tkq 25 rfl (v := ?_) (.inl ⟨by rfl, ?_⟩) (by assumption) ?_
                    rotate_left
                    · intro W h; (try dsimp only at h); go_simp; try with_reducible rfl
                    try simp only [Act.put,qk1,qk2,qk3,qk4,qk5,qk6]
                    refine wpAnyH_done (by kernel_rfl) ?_ _
                    clear e1 e2
                    have x3 := bz_y HX.out 3 _ rfl
                    have x4 := bz_y HX.out 4 _ rfl
                    have x5 := bz_y HX.out 5 _ rfl
                    have x6 := bz_y HX.out 6 _ rfl
                    have lx : w.heap.size + 1 < (World.heap v4).size := by have := bz_size HX.out; omega
                    go_wp2_with fail
                    refine (HI3.out _).mono ?_
                    rintro e wj ⟨rfl, rfl⟩
                    go_wp2_with fail
                    refine (HI4.out _).mono ?_
                    rintro e wj ⟨rfl, rfl⟩
                    go_wp2_with fail
                    refine (HI5.out _).mono ?_
                    rintro e wj ⟨rfl, rfl⟩
                    go_wp2_with fail
                    refine (HI6.out _).mono ?_
                    rintro e wj ⟨rfl, rfl⟩
                    go_wp2_with fail
                    go_ret
                    exact ret_er HV.out (bz_low HX.out)
                  · have HV : Hid (vLi n kk s ⟨kd, sv, tt, vw, sl, vl, pk⟩ = 0) := hD (by rw [HVu.out, h0, h1, h2, h3, h4, h5, h6]; simp)
                    have HI0 : Hid (∀ W : World, Calls Tryz.prog 29 #[.int .i64 sv, .int .i64 0, .int .i64 n1] W (fun e w' => e = .returned (.bool true) ∧ W = w')) := hD (fun W => by rw [← h0]; exact inQ_any _ _ _ W)
                    have HI1 : Hid (∀ W : World, Calls Tryz.prog 30 #[.int .u16 (s : Int), .int .i64 sv] W (fun e w' => e = .returned (.bool true) ∧ W = w')) := hD (fun W => by rw [← h1, ← HBit.out h0]; exact has7_any s sv W hs)
                    have HI2 : Hid (∀ W : World, Calls Tryz.prog 29 #[.int .i64 tt, .int .i64 0, .int .i64 r1] W (fun e w' => e = .returned (.bool true) ∧ W = w')) := hD (fun W => by rw [← h2]; exact inQ_any _ _ _ W)
                    have HI3 : Hid (∀ W : World, Calls Tryz.prog 29 #[.int .i64 vw, .int .i64 1, .int .i64 1000000] W (fun e w' => e = .returned (.bool true) ∧ W = w')) := hD (fun W => by rw [← h3]; exact inQ_any _ _ _ W)
                    have HI4 : Hid (∀ W : World, Calls Tryz.prog 29 #[.int .i64 sl, .int .i64 0, .int .i64 1000000] W (fun e w' => e = .returned (.bool true) ∧ W = w')) := hD (fun W => by rw [← h4]; exact inQ_any _ _ _ W)
                    have HI5 : Hid (∀ W : World, Calls Tryz.prog 29 #[.int .i64 vl, .int .i64 0, .int .i64 1000000] W (fun e w' => e = .returned (.bool true) ∧ W = w')) := hD (fun W => by rw [← h5]; exact inQ_any _ _ _ W)
                    have HI6 : Hid (∀ W : World, Calls Tryz.prog 29 #[.int .i64 pk, .int .i64 0, .int .i64 65535] W (fun e w' => e = .returned (.bool true) ∧ W = w')) := hD (fun W => by rw [← h6]; exact inQ_any _ _ _ W)
                    clear h0 h1 h2 h3 h4 h5 h6
                    have HX : Hid (Bz w [.slice A n c, .slice B n2 c2, .int .u16 u, .slice D n3 c3, .slice E n4 c4, .slice F kk c5] 36 [.int .i64 kd, .int .i64 sv, .int .i64 tt, .int .i64 vw, .int .i64 sl, .int .i64 vl, .int .i64 pk] 28 wr.drew) := hD (bz_on HX.out (Below.refl _ _).drew)
                    generalize hv : wr.drew = v0 at HX
                    have hS0 : World.cell? v0 ⟨w.heap.size, 0, none⟩ = some (.slice A n c) ∧ World.cell? v0 ⟨w.heap.size, 1, none⟩ = some (.slice B n2 c2) ∧ World.cell? v0 ⟨w.heap.size, 2, none⟩ = some (.int .u16 u) ∧ World.cell? v0 ⟨w.heap.size, 3, none⟩ = some (.slice D n3 c3) ∧ World.cell? v0 ⟨w.heap.size, 4, none⟩ = some (.slice E n4 c4) ∧ World.cell? v0 ⟨w.heap.size, 5, none⟩ = some (.slice F kk c5) ∧ World.cell? v0 ⟨w.heap.size + 1, 0, none⟩ = some (.int .i64 kd) ∧ World.cell? v0 ⟨w.heap.size + 1, 1, none⟩ = some (.int .i64 sv) ∧ World.cell? v0 ⟨w.heap.size + 1, 2, none⟩ = some (.int .i64 tt) ∧ World.cell? v0 ⟨w.heap.size + 1, 3, none⟩ = some (.int .i64 vw) ∧ World.cell? v0 ⟨w.heap.size + 1, 4, none⟩ = some (.int .i64 sl) ∧ World.cell? v0 ⟨w.heap.size + 1, 5, none⟩ = some (.int .i64 vl) ∧ World.cell? v0 ⟨w.heap.size + 1, 6, none⟩ = some (.int .i64 pk) := ⟨bz_x HX.out 0 _ rfl, bz_x HX.out 1 _ rfl, bz_x HX.out 2 _ rfl, bz_x HX.out 3 _ rfl, bz_x HX.out 4 _ rfl, bz_x HX.out 5 _ rfl, bz_y HX.out 0 _ rfl, bz_y HX.out 1 _ rfl, bz_y HX.out 2 _ rfl, bz_y HX.out 3 _ rfl, bz_y HX.out 4 _ rfl, bz_y HX.out 5 _ rfl, bz_y HX.out 6 _ rfl⟩
                    refine wp_region_held_drew (S := fun W => World.cell? W ⟨w.heap.size, 0, none⟩ = some (.slice A n c) ∧ World.cell? W ⟨w.heap.size, 1, none⟩ = some (.slice B n2 c2) ∧ World.cell? W ⟨w.heap.size, 2, none⟩ = some (.int .u16 u) ∧ World.cell? W ⟨w.heap.size, 3, none⟩ = some (.slice D n3 c3) ∧ World.cell? W ⟨w.heap.size, 4, none⟩ = some (.slice E n4 c4) ∧ World.cell? W ⟨w.heap.size, 5, none⟩ = some (.slice F kk c5) ∧ World.cell? W ⟨w.heap.size + 1, 0, none⟩ = some (.int .i64 kd) ∧ World.cell? W ⟨w.heap.size + 1, 1, none⟩ = some (.int .i64 sv) ∧ World.cell? W ⟨w.heap.size + 1, 2, none⟩ = some (.int .i64 tt) ∧ World.cell? W ⟨w.heap.size + 1, 3, none⟩ = some (.int .i64 vw) ∧ World.cell? W ⟨w.heap.size + 1, 4, none⟩ = some (.int .i64 sl) ∧ World.cell? W ⟨w.heap.size + 1, 5, none⟩ = some (.int .i64 vl) ∧ World.cell? W ⟨w.heap.size + 1, 6, none⟩ = some (.int .i64 pk)) (by kernel_rfl) (by rw [hv]; exact hS0) (fun hHeld => ?_)
                    rw [hv] at hHeld ⊢
                    clear hv
                    refine tkq 0 rfl (v := ?_) (.inl ⟨by rfl, ?_⟩) (by assumption) ?_
                    rotate_left
                    · intro W h; (try dsimp only at h); go_simp; try with_reducible rfl
                    try simp only [Act.put,qk1,qk2,qk3,qk4,qk6]
                    refine tkq 1 rfl (v := ?_) (.inl ⟨by rfl, ?_⟩) (by assumption) ?_
                    rotate_left
                    · intro W h; (try dsimp only at h); go_simp; try with_reducible rfl
                    try simp only [Act.put,qk1,qk2,qk3,qk4,qk5,qk6]
                    refine tkq 2 rfl (v := ?_) (.inl ⟨by rfl, ?_⟩) (by assumption) ?_
                    rotate_left
                    · intro W h; (try dsimp only at h); go_simp; try with_reducible rfl
                    try simp only [Act.put,qk1,qk2,qk3,qk4,qk5,qk6]
                    refine tkq 3 rfl (v := ?_) (.inl ⟨by rfl, ?_⟩) (by assumption) ?_
                    rotate_left
                    · intro W h; (try dsimp only at h); go_simp; try with_reducible rfl
                    try simp only [Act.put,qk1,qk2,qk3,qk4,qk5,qk6]
                    refine tkq 4 rfl (v := ?_) (.inl ⟨by rfl, ?_⟩) (by assumption) ?_
                    rotate_left
                    · intro W h; (try dsimp only at h); go_simp; try with_reducible rfl
                    try simp only [Act.put,qk1,qk2,qk3,qk4,qk5,qk6]
                    refine tkq 5 rfl (v := ?_) (.inl ⟨by rfl, ?_⟩) (by assumption) ?_
                    rotate_left
                    · intro W h; (try dsimp only at h); go_simp; try with_reducible rfl
                    try simp only [Act.put,qk1,qk2,qk3,qk4,qk5,qk6]
                    refine tkr 6 rfl (fun K hK => ?_)
                    go_simp
                    go_at_call 29
                    refine (same_b (HI0.out _)).mono ?_
                    rintro e v1 ⟨rfl, hs⟩
                    have HX := hD (bz_on HX.out hs)
                    clear hs
                    go_wp2_with fail
                    have hS1 : World.cell? v1 ⟨w.heap.size, 0, none⟩ = some (.slice A n c) ∧ World.cell? v1 ⟨w.heap.size, 1, none⟩ = some (.slice B n2 c2) ∧ World.cell? v1 ⟨w.heap.size, 2, none⟩ = some (.int .u16 u) ∧ World.cell? v1 ⟨w.heap.size, 3, none⟩ = some (.slice D n3 c3) ∧ World.cell? v1 ⟨w.heap.size, 4, none⟩ = some (.slice E n4 c4) ∧ World.cell? v1 ⟨w.heap.size, 5, none⟩ = some (.slice F kk c5) ∧ World.cell? v1 ⟨w.heap.size + 1, 0, none⟩ = some (.int .i64 kd) ∧ World.cell? v1 ⟨w.heap.size + 1, 1, none⟩ = some (.int .i64 sv) ∧ World.cell? v1 ⟨w.heap.size + 1, 2, none⟩ = some (.int .i64 tt) ∧ World.cell? v1 ⟨w.heap.size + 1, 3, none⟩ = some (.int .i64 vw) ∧ World.cell? v1 ⟨w.heap.size + 1, 4, none⟩ = some (.int .i64 sl) ∧ World.cell? v1 ⟨w.heap.size + 1, 5, none⟩ = some (.int .i64 vl) ∧ World.cell? v1 ⟨w.heap.size + 1, 6, none⟩ = some (.int .i64 pk) := ⟨bz_x HX.out 0 _ rfl, bz_x HX.out 1 _ rfl, bz_x HX.out 2 _ rfl, bz_x HX.out 3 _ rfl, bz_x HX.out 4 _ rfl, bz_x HX.out 5 _ rfl, bz_y HX.out 0 _ rfl, bz_y HX.out 1 _ rfl, bz_y HX.out 2 _ rfl, bz_y HX.out 3 _ rfl, bz_y HX.out 4 _ rfl, bz_y HX.out 5 _ rfl, bz_y HX.out 6 _ rfl⟩
                    refine hK.out _ _ hS1 (fun hHeld => ?_)
                    clear hK K
                    try simp only [Act.put,qk1,qk2,qk3,qk4,qk5,qk6]
                    refine tkq 7 rfl (v := ?_) (.inl ⟨by rfl, ?_⟩) (by assumption) ?_
                    rotate_left
                    · intro W h; (try dsimp only at h); go_simp; try with_reducible rfl
                    try simp only [Act.put,qk1,qk2,qk3,qk4,qk5,qk6]
                    refine tkq 8 rfl (v := ?_) (.inl ⟨by rfl, ?_⟩) (by assumption) ?_
                    rotate_left
                    · intro W h; (try dsimp only at h); go_simp; try with_reducible rfl
                    try simp only [Act.put,qk1,qk2,qk3,qk4,qk5,qk6]
                    refine tkq 9 rfl (v := ?_) (.inl ⟨by rfl, ?_⟩) (by assumption) ?_
                    rotate_left
                    · intro W h; (try dsimp only at h); go_simp; try with_reducible rfl
                    try simp only [Act.put,qk1,qk2,qk3,qk4,qk5,qk6]
                    refine tkq 10 rfl (v := ?_) (.inl ⟨by rfl, ?_⟩) (by assumption) ?_
                    rotate_left
                    · intro W h; (try dsimp only at h); go_simp; try with_reducible rfl
                    try simp only [Act.put,qk1,qk2,qk3,qk4,qk5,qk6]
                    refine tkq 11 rfl (v := ?_) (.inl ⟨by rfl, ?_⟩) (by assumption) ?_
                    rotate_left
                    · intro W h; (try dsimp only at h); go_simp; try with_reducible rfl
                    try simp only [Act.put,qk1,qk2,qk3,qk4,qk5,qk6]
                    refine tkr 12 rfl (fun K hK => ?_)
                    go_simp
                    go_at_call 30
                    refine (same_b (HI1.out _)).mono ?_
                    rintro e v2 ⟨rfl, hs⟩
                    have HX := hD (bz_on HX.out hs)
                    clear hs
                    go_wp2_with fail
                    have hS2 : World.cell? v2 ⟨w.heap.size, 0, none⟩ = some (.slice A n c) ∧ World.cell? v2 ⟨w.heap.size, 1, none⟩ = some (.slice B n2 c2) ∧ World.cell? v2 ⟨w.heap.size, 2, none⟩ = some (.int .u16 u) ∧ World.cell? v2 ⟨w.heap.size, 3, none⟩ = some (.slice D n3 c3) ∧ World.cell? v2 ⟨w.heap.size, 4, none⟩ = some (.slice E n4 c4) ∧ World.cell? v2 ⟨w.heap.size, 5, none⟩ = some (.slice F kk c5) ∧ World.cell? v2 ⟨w.heap.size + 1, 0, none⟩ = some (.int .i64 kd) ∧ World.cell? v2 ⟨w.heap.size + 1, 1, none⟩ = some (.int .i64 sv) ∧ World.cell? v2 ⟨w.heap.size + 1, 2, none⟩ = some (.int .i64 tt) ∧ World.cell? v2 ⟨w.heap.size + 1, 3, none⟩ = some (.int .i64 vw) ∧ World.cell? v2 ⟨w.heap.size + 1, 4, none⟩ = some (.int .i64 sl) ∧ World.cell? v2 ⟨w.heap.size + 1, 5, none⟩ = some (.int .i64 vl) ∧ World.cell? v2 ⟨w.heap.size + 1, 6, none⟩ = some (.int .i64 pk) := ⟨bz_x HX.out 0 _ rfl, bz_x HX.out 1 _ rfl, bz_x HX.out 2 _ rfl, bz_x HX.out 3 _ rfl, bz_x HX.out 4 _ rfl, bz_x HX.out 5 _ rfl, bz_y HX.out 0 _ rfl, bz_y HX.out 1 _ rfl, bz_y HX.out 2 _ rfl, bz_y HX.out 3 _ rfl, bz_y HX.out 4 _ rfl, bz_y HX.out 5 _ rfl, bz_y HX.out 6 _ rfl⟩
                    refine hK.out _ _ hS2 (fun hHeld => ?_)
                    clear hK K
                    try simp only [Act.put,qk1,qk2,qk3,qk4,qk5,qk6]
                    refine tkq 13 rfl (v := ?_) (.inl ⟨by rfl, ?_⟩) (by assumption) ?_
                    rotate_left
                    · intro W h; (try dsimp only at h); go_simp; try with_reducible rfl
                    try simp only [Act.put,qk1,qk2,qk3,qk4,qk5,qk6]
                    refine tkq 14 rfl (v := ?_) (.inl ⟨by rfl, ?_⟩) (by assumption) ?_
                    rotate_left
                    · intro W h; (try dsimp only at h); go_simp; try with_reducible rfl
                    try simp only [Act.put,qk1,qk2,qk3,qk4,qk5,qk6]
                    refine tkq 15 rfl (v := ?_) (.inl ⟨by rfl, ?_⟩) (by assumption) ?_
                    rotate_left
                    · intro W h; (try dsimp only at h); go_simp; try with_reducible rfl
                    try simp only [Act.put,qk1,qk2,qk3,qk4,qk5,qk6]
                    refine tkq 16 rfl (v := ?_) (.inl ⟨by rfl, ?_⟩) (by assumption) ?_
                    rotate_left
                    · intro W h; (try dsimp only at h); go_simp; try with_reducible rfl
                    try simp only [Act.put,qk1,qk2,qk3,qk4,qk5,qk6]
                    refine tkq 17 rfl (v := ?_) (.inl ⟨by rfl, ?_⟩) (by assumption) ?_
                    rotate_left
                    · intro W h; (try dsimp only at h); go_simp; try with_reducible rfl
                    try simp only [Act.put,qk1,qk2,qk3,qk4,qk5,qk6]
                    refine tkq 18 rfl (v := ?_) (.inl ⟨by rfl, ?_⟩) (by assumption) ?_
                    rotate_left
                    · intro W h; (try dsimp only at h); go_simp; try with_reducible rfl
                    try simp only [Act.put,qk1,qk2,qk3,qk4,qk5,qk6]
                    refine tkq 19 rfl (v := ?_) (.inl ⟨by rfl, ?_⟩) (by assumption) ?_
                    rotate_left
                    · intro W h; (try dsimp only at h); go_simp; try with_reducible rfl
                    try simp only [Act.put,qk1,qk2,qk3,qk4,qk5,qk6]
                    refine tkq 20 rfl (v := ?_) (.inl ⟨by rfl, ?_⟩) (by assumption) ?_
                    rotate_left
                    · intro W h; (try dsimp only at h); go_simp; try with_reducible rfl
                    try simp only [Act.put,qk1,qk2,qk3,qk4,qk5,qk6]
                    refine tkr 21 rfl (fun K hK => ?_)
                    go_simp
                    go_at_call 31
                    refine (HRc.out _).mono ?_
                    rintro e v3 ⟨rfl, hs⟩
                    have HX := hD (bz_on HX.out hs)
                    clear hs
                    go_wp2_with fail
                    have hS3 : World.cell? v3 ⟨w.heap.size, 0, none⟩ = some (.slice A n c) ∧ World.cell? v3 ⟨w.heap.size, 1, none⟩ = some (.slice B n2 c2) ∧ World.cell? v3 ⟨w.heap.size, 2, none⟩ = some (.int .u16 u) ∧ World.cell? v3 ⟨w.heap.size, 3, none⟩ = some (.slice D n3 c3) ∧ World.cell? v3 ⟨w.heap.size, 4, none⟩ = some (.slice E n4 c4) ∧ World.cell? v3 ⟨w.heap.size, 5, none⟩ = some (.slice F kk c5) ∧ World.cell? v3 ⟨w.heap.size + 1, 0, none⟩ = some (.int .i64 kd) ∧ World.cell? v3 ⟨w.heap.size + 1, 1, none⟩ = some (.int .i64 sv) ∧ World.cell? v3 ⟨w.heap.size + 1, 2, none⟩ = some (.int .i64 tt) ∧ World.cell? v3 ⟨w.heap.size + 1, 3, none⟩ = some (.int .i64 vw) ∧ World.cell? v3 ⟨w.heap.size + 1, 4, none⟩ = some (.int .i64 sl) ∧ World.cell? v3 ⟨w.heap.size + 1, 5, none⟩ = some (.int .i64 vl) ∧ World.cell? v3 ⟨w.heap.size + 1, 6, none⟩ = some (.int .i64 pk) := ⟨bz_x HX.out 0 _ rfl, bz_x HX.out 1 _ rfl, bz_x HX.out 2 _ rfl, bz_x HX.out 3 _ rfl, bz_x HX.out 4 _ rfl, bz_x HX.out 5 _ rfl, bz_y HX.out 0 _ rfl, bz_y HX.out 1 _ rfl, bz_y HX.out 2 _ rfl, bz_y HX.out 3 _ rfl, bz_y HX.out 4 _ rfl, bz_y HX.out 5 _ rfl, bz_y HX.out 6 _ rfl⟩
                    refine hK.out _ _ hS3 (fun hHeld => ?_)
                    clear hK K
                    try simp only [Act.put,qk1,qk2,qk3,qk4,qk5,qk6]
                    refine tkq 22 rfl (v := ?_) (.inl ⟨by rfl, ?_⟩) (by assumption) ?_
                    rotate_left
                    · intro W h; (try dsimp only at h); go_simp; try with_reducible rfl
                    try simp only [Act.put,qk1,qk2,qk3,qk4,qk5,qk6]
                    refine tkr 23 rfl (fun K hK => ?_)
                    go_simp
                    go_at_call 29
                    refine (same_b (HI2.out _)).mono ?_
                    rintro e v4 ⟨rfl, hs⟩
                    have HX := hD (bz_on HX.out hs)
                    clear hs
                    go_wp2_with fail
                    have hS4 : World.cell? v4 ⟨w.heap.size, 0, none⟩ = some (.slice A n c) ∧ World.cell? v4 ⟨w.heap.size, 1, none⟩ = some (.slice B n2 c2) ∧ World.cell? v4 ⟨w.heap.size, 2, none⟩ = some (.int .u16 u) ∧ World.cell? v4 ⟨w.heap.size, 3, none⟩ = some (.slice D n3 c3) ∧ World.cell? v4 ⟨w.heap.size, 4, none⟩ = some (.slice E n4 c4) ∧ World.cell? v4 ⟨w.heap.size, 5, none⟩ = some (.slice F kk c5) ∧ World.cell? v4 ⟨w.heap.size + 1, 0, none⟩ = some (.int .i64 kd) ∧ World.cell? v4 ⟨w.heap.size + 1, 1, none⟩ = some (.int .i64 sv) ∧ World.cell? v4 ⟨w.heap.size + 1, 2, none⟩ = some (.int .i64 tt) ∧ World.cell? v4 ⟨w.heap.size + 1, 3, none⟩ = some (.int .i64 vw) ∧ World.cell? v4 ⟨w.heap.size + 1, 4, none⟩ = some (.int .i64 sl) ∧ World.cell? v4 ⟨w.heap.size + 1, 5, none⟩ = some (.int .i64 vl) ∧ World.cell? v4 ⟨w.heap.size + 1, 6, none⟩ = some (.int .i64 pk) := ⟨bz_x HX.out 0 _ rfl, bz_x HX.out 1 _ rfl, bz_x HX.out 2 _ rfl, bz_x HX.out 3 _ rfl, bz_x HX.out 4 _ rfl, bz_x HX.out 5 _ rfl, bz_y HX.out 0 _ rfl, bz_y HX.out 1 _ rfl, bz_y HX.out 2 _ rfl, bz_y HX.out 3 _ rfl, bz_y HX.out 4 _ rfl, bz_y HX.out 5 _ rfl, bz_y HX.out 6 _ rfl⟩
                    refine hK.out _ _ hS4 (fun hHeld => ?_)
                    clear hK K
                    try simp only [Act.put,qk1,qk2,qk3,qk4,qk5,qk6]
                    refine tkq 24 rfl (v := ?_) (.inl ⟨by rfl, ?_⟩) (by assumption) ?_
                    rotate_left
                    · intro W h; (try dsimp only at h); go_simp; try with_reducible rfl
                    try simp only [Act.put,qk1,qk2,qk3,qk4,qk5,qk6]
                    refine tkq 25 rfl (v := ?_) (.inl ⟨by rfl, ?_⟩) (by assumption) ?_
                    rotate_left
                    · intro W h; (try dsimp only at h); go_simp; try with_reducible rfl
                    try simp only [Act.put,qk1,qk2,qk3,qk4,qk5,qk6]
                    refine wpAnyH_done (by kernel_rfl) ?_ _
                    clear e1 e2
                    have x3 := bz_y HX.out 3 _ rfl
                    have x4 := bz_y HX.out 4 _ rfl
                    have x5 := bz_y HX.out 5 _ rfl
                    have x6 := bz_y HX.out 6 _ rfl
                    have lx : w.heap.size + 1 < (World.heap v4).size := by have := bz_size HX.out; omega
                    go_wp2_with fail
                    refine (HI3.out _).mono ?_
                    rintro e wj ⟨rfl, rfl⟩
                    go_wp2_with fail
                    refine (HI4.out _).mono ?_
                    rintro e wj ⟨rfl, rfl⟩
                    go_wp2_with fail
                    refine (HI5.out _).mono ?_
                    rintro e wj ⟨rfl, rfl⟩
                    go_wp2_with fail
                    refine (HI6.out _).mono ?_
                    rintro e wj ⟨rfl, rfl⟩
                    go_wp2_with fail
                    go_ret
                    exact ret_er HV.out (bz_low HX.out)
end Go.Proofs.YtikpcebhcnjkhaaGreatDoor
