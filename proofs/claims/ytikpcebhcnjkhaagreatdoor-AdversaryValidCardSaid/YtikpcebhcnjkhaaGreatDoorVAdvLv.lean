/- The law AdversaryValid. -/
import Derived.Deep.Cut
import Derived.Deep.CutRange
import Derived.Test.YtikpcebhcnjkhaaGreatDoorVPl
import Derived.Test.YtikpcebhcnjkhaaGreatDoorVA9
import Derived.Test.YtikpcebhcnjkhaaGreatDoorVAdvXr
namespace Go.Proofs.YtikpcebhcnjkhaaGreatDoor
open Go.RowKit Q40
set_option maxRecDepth 100000 in
set_option maxHeartbeats 8000000 in
theorem lawValid51 (N Wt C : Nat) (x : Sl Dr) (kd sv tt vw sl vl pk : Int) (s : Nat) (w : World) (he : EnvP w) (ht : Tz w) (hN : N < 256) (hW : Wt < 256) (hC : C < 256) (hs : s < 65536) (hx : Rd w 6 x.a x.l.length (x.l.flatMap drC)) (hok : ∀ d ∈ x.l, d.ok w) :
    Calls Tryz.prog 3 #[.agg #[.int .u8 (N : Int), .int .u8 (Wt : Int), .int .u8 (C : Int), .slice x.a x.l.length x.c], .int .u16 (s : Int), .agg #[.int .i64 kd, .int .i64 sv, .int .i64 tt, .int .i64 vw, .int .i64 sl, .int .i64 vl, .int .i64 pk]] w (RetBool true w) := by
 obtain ⟨n, hn⟩ : ∃ n, n = 3 + N % 3 := ⟨_, rfl⟩
 obtain ⟨k, hk⟩ : ∃ k, k = C % 3 := ⟨_, rfl⟩
 have HAw : Hid (∀ W, Below w.heap.size w W → Calls Tryz.prog 7 #[] W (RetBool true W)) := hD (fun W hb => awake51 W (he.below hb) (ht.below hb))
 have HSe : Hid (∀ W, Below w.heap.size w W → Calls Tryz.prog 8 #[.agg #[.int .u8 (N : Int), .int .u8 (Wt : Int), .int .u8 (C : Int), .slice x.a x.l.length x.c]] W (RetDep n k W)) := hD (fun W hb => hn ▸ hk ▸ setup_any N Wt C x W hN hW hC (hx.below hb) (fun d h => (hok d h).below hb))
 obtain ⟨v, hv⟩ : ∃ v, v = vLi n k s ⟨kd, sv, tt, vw, sl, vl, pk⟩ := ⟨_, rfl⟩
 have HP : Hid (∀ (A B D E F : Option Addr) (u : Int) (c n2 c2 n3 c3 n4 c4 c5 : Nat) W, Calls Tryz.prog 9 #[.agg #[.slice A n c, .slice B n2 c2, .int .u16 u, .slice D n3 c3, .slice E n4 c4, .slice F k c5], .int .u16 (s : Int), .agg #[.int .i64 kd, .int .i64 sv, .int .i64 tt, .int .i64 vw, .int .i64 sl, .int .i64 vl, .int .i64 pk]] W (RetErr v W)) := hD (fun A B D E F u c n2 c2 n3 c3 n4 c4 c5 W => hv ▸ advValid_any A B D E F u n c n2 c2 n3 c3 n4 c4 k c5 kd sv tt vw sl vl pk s W hs (by omega) (by omega) (by omega))
 have HR : Hid (∀ (A B D E F : Option Addr) (u : Int) (c n2 c2 n3 c3 n4 c4 c5 : Nat) W, Calls Tryz.prog 10 #[.agg #[.slice A n c, .slice B n2 c2, .int .u16 u, .slice D n3 c3, .slice E n4 c4, .slice F k c5], .int .u16 (s : Int), .agg #[.int .i64 kd, .int .i64 sv, .int .i64 tt, .int .i64 vw, .int .i64 sl, .int .i64 vl, .int .i64 pk]] W (RetErr v W)) := hD (fun A B D E F u c n2 c2 n3 c3 n4 c4 c5 W => hv ▸ validR_any A B D E F u n c n2 c2 n3 c3 n4 c4 k c5 kd sv tt vw sl vl pk s W hs (by omega) (by omega) (by omega))
 have H0 := hD (bz_new w [.int .u8 (N : Int), .int .u8 (Wt : Int), .int .u8 (C : Int), .slice x.a x.l.length x.c] 24 [.int .i64 kd, .int .i64 sv, .int .i64 tt, .int .i64 vw, .int .i64 sl, .int .i64 vl, .int .i64 pk] 28)
 clear he ht hN hW hC hs hx hok hn hk hv
 go_enter Tryz.func3, Tryz.ntmps3
 go_wp2_with fail
 refine (HAw.out _ (bz_low H0.out)).mono ?_
 rintro e w1 ⟨rfl, hb⟩
 have HX := hD (bz_on H0.out hb)
 clear hb
 have x0 := bz_x HX.out 0 _ rfl
 have x1 := bz_x HX.out 1 _ rfl
 have x2 := bz_x HX.out 2 _ rfl
 have x3 := bz_x HX.out 3 _ rfl
 have lx := bz_size HX.out
 go_wp2_with fail
 refine (HSe.out _ (bz_low HX.out)).mono ?_
 rintro e w3 ⟨⟨A, B, D, E, F, u, c, n2, c2, n3, c3, n4, c4, c5, rfl⟩, hb⟩
 have HD := hD (Vz.new w3 [.slice A n c, .slice B n2 c2, .int .u16 u, .slice D n3 c3, .slice E n4 c4, .slice F k c5] 36)
 have HX := hD (bz_on (bz_on HX.out hb) (below_new w3 (.cells #[.slice A n c, .slice B n2 c2, .int .u16 u, .slice D n3 c3, .slice E n4 c4, .slice F k c5] 36)))
 clear hb x0 x1 x2 x3 lx
 have HVP := hD (HP.out A B D E F u c n2 c2 n3 c3 n4 c4 c5)
 have HVR := hD (HR.out A B D E F u c n2 c2 n3 c3 n4 c4 c5)
 go_upto_region 4 with fail
 generalize w3.alloc (.cells #[.slice A n c, .slice B n2 c2, .int .u16 u, .slice D n3 c3, .slice E n4 c4, .slice F k c5] 36) = w4 at HD HX ⊢
 generalize w3.heap.size = gd at HD ⊢
 have HD : Hid (Vz w4.drew gd [.slice A n c, .slice B n2 c2, .int .u16 u, .slice D n3 c3, .slice E n4 c4, .slice F k c5]) := hD (HD.out.below (Below.refl _ _).drew)
 have HX : Hid (Bz w [.int .u8 (N : Int), .int .u8 (Wt : Int), .int .u8 (C : Int), .slice x.a x.l.length x.c] 24 [.int .i64 kd, .int .i64 sv, .int .i64 tt, .int .i64 vw, .int .i64 sl, .int .i64 vl, .int .i64 pk] 28 w4.drew) := hD (bz_on HX.out (Below.refl _ _).drew)
 generalize hv : w4.drew = v0 at HD HX
 have hS0 : World.cell? v0 ⟨gd, 0, none⟩ = some (.slice A n c) ∧ World.cell? v0 ⟨gd, 1, none⟩ = some (.slice B n2 c2) ∧ World.cell? v0 ⟨gd, 2, none⟩ = some (.int .u16 u) ∧ World.cell? v0 ⟨gd, 3, none⟩ = some (.slice D n3 c3) ∧ World.cell? v0 ⟨gd, 4, none⟩ = some (.slice E n4 c4) ∧ World.cell? v0 ⟨gd, 5, none⟩ = some (.slice F k c5) ∧ World.cell? v0 ⟨w.heap.size + 1, 0, none⟩ = some (.int .i64 kd) ∧ World.cell? v0 ⟨w.heap.size + 1, 1, none⟩ = some (.int .i64 sv) ∧ World.cell? v0 ⟨w.heap.size + 1, 2, none⟩ = some (.int .i64 tt) ∧ World.cell? v0 ⟨w.heap.size + 1, 3, none⟩ = some (.int .i64 vw) ∧ World.cell? v0 ⟨w.heap.size + 1, 4, none⟩ = some (.int .i64 sl) ∧ World.cell? v0 ⟨w.heap.size + 1, 5, none⟩ = some (.int .i64 vl) ∧ World.cell? v0 ⟨w.heap.size + 1, 6, none⟩ = some (.int .i64 pk) := ⟨HD.out.cells 0 _ rfl, HD.out.cells 1 _ rfl, HD.out.cells 2 _ rfl, HD.out.cells 3 _ rfl, HD.out.cells 4 _ rfl, HD.out.cells 5 _ rfl, bz_y HX.out 0 _ rfl, bz_y HX.out 1 _ rfl, bz_y HX.out 2 _ rfl, bz_y HX.out 3 _ rfl, bz_y HX.out 4 _ rfl, bz_y HX.out 5 _ rfl, bz_y HX.out 6 _ rfl⟩
 refine wp_region_held_drew (S := fun W => World.cell? W ⟨gd, 0, none⟩ = some (.slice A n c) ∧ World.cell? W ⟨gd, 1, none⟩ = some (.slice B n2 c2) ∧ World.cell? W ⟨gd, 2, none⟩ = some (.int .u16 u) ∧ World.cell? W ⟨gd, 3, none⟩ = some (.slice D n3 c3) ∧ World.cell? W ⟨gd, 4, none⟩ = some (.slice E n4 c4) ∧ World.cell? W ⟨gd, 5, none⟩ = some (.slice F k c5) ∧ World.cell? W ⟨w.heap.size + 1, 0, none⟩ = some (.int .i64 kd) ∧ World.cell? W ⟨w.heap.size + 1, 1, none⟩ = some (.int .i64 sv) ∧ World.cell? W ⟨w.heap.size + 1, 2, none⟩ = some (.int .i64 tt) ∧ World.cell? W ⟨w.heap.size + 1, 3, none⟩ = some (.int .i64 vw) ∧ World.cell? W ⟨w.heap.size + 1, 4, none⟩ = some (.int .i64 sl) ∧ World.cell? W ⟨w.heap.size + 1, 5, none⟩ = some (.int .i64 vl) ∧ World.cell? W ⟨w.heap.size + 1, 6, none⟩ = some (.int .i64 pk)) (by kernel_rfl) (by rw [hv]; exact hS0) (fun hHeld => ?_)
 rw [hv] at hHeld ⊢
 clear hv
 refine tkq 0 rfl (v := ?_) (.inl ⟨by rfl, ?_⟩) (by assumption) ?_
 rotate_left
 · intro W h; (try dsimp only at h); go_simp; try with_reducible rfl
 try simp only [Act.put,qk1,qk2,qk3,qk4,qk6]
 refine tkq 1 rfl (v := ?_) (.inl ⟨by rfl, ?_⟩) (by assumption) ?_
 rotate_left
 · intro W h; (try dsimp only at h); go_simp; try with_reducible rfl
 try simp only [Act.put,qk1,qk2,qk3,qk4,qk5,qk6]
 refine tkq 2 rfl (v := ?_) (.inl ⟨by rfl, ?_⟩) (by assumption) ?_
 rotate_left
 · intro W h; (try dsimp only at h); go_simp; try with_reducible rfl
 try simp only [Act.put,qk1,qk2,qk3,qk4,qk5,qk6]
 refine tkq 4 rfl (v := ?_) (.inl ⟨by rfl, ?_⟩) (by assumption) ?_
 rotate_left
 · intro W h; (try dsimp only at h); go_simp; try with_reducible rfl
 try simp only [Act.put,qk1,qk2,qk3,qk4,qk5,qk6]
 refine tkq 5 rfl (v := ?_) (.inl ⟨by rfl, ?_⟩) (by assumption) ?_
 rotate_left
 · intro W h; (try dsimp only at h); go_simp; try with_reducible rfl
 try simp only [Act.put,qk1,qk2,qk3,qk4,qk5,qk6]
 refine tkq 6 rfl (v := ?_) (.inl ⟨by rfl, ?_⟩) (by assumption) ?_
 rotate_left
 · intro W h; (try dsimp only at h); go_simp; try with_reducible rfl
 try simp only [Act.put,qk1,qk2,qk3,qk4,qk5,qk6]
 refine tkr 3 rfl (fun K hK => ?_)
 go_simp
 go_at_call 9
 refine (HVP.out _).mono ?_
 rintro e v1 ⟨rfl, hs⟩
 have HD := hD (HD.out.below hs)
 have HX := hD (bz_on HX.out hs)
 clear hs
 go_wp2_with fail
 have hS1 : World.cell? v1 ⟨gd, 0, none⟩ = some (.slice A n c) ∧ World.cell? v1 ⟨gd, 1, none⟩ = some (.slice B n2 c2) ∧ World.cell? v1 ⟨gd, 2, none⟩ = some (.int .u16 u) ∧ World.cell? v1 ⟨gd, 3, none⟩ = some (.slice D n3 c3) ∧ World.cell? v1 ⟨gd, 4, none⟩ = some (.slice E n4 c4) ∧ World.cell? v1 ⟨gd, 5, none⟩ = some (.slice F k c5) ∧ World.cell? v1 ⟨w.heap.size + 1, 0, none⟩ = some (.int .i64 kd) ∧ World.cell? v1 ⟨w.heap.size + 1, 1, none⟩ = some (.int .i64 sv) ∧ World.cell? v1 ⟨w.heap.size + 1, 2, none⟩ = some (.int .i64 tt) ∧ World.cell? v1 ⟨w.heap.size + 1, 3, none⟩ = some (.int .i64 vw) ∧ World.cell? v1 ⟨w.heap.size + 1, 4, none⟩ = some (.int .i64 sl) ∧ World.cell? v1 ⟨w.heap.size + 1, 5, none⟩ = some (.int .i64 vl) ∧ World.cell? v1 ⟨w.heap.size + 1, 6, none⟩ = some (.int .i64 pk) := ⟨HD.out.cells 0 _ rfl, HD.out.cells 1 _ rfl, HD.out.cells 2 _ rfl, HD.out.cells 3 _ rfl, HD.out.cells 4 _ rfl, HD.out.cells 5 _ rfl, bz_y HX.out 0 _ rfl, bz_y HX.out 1 _ rfl, bz_y HX.out 2 _ rfl, bz_y HX.out 3 _ rfl, bz_y HX.out 4 _ rfl, bz_y HX.out 5 _ rfl, bz_y HX.out 6 _ rfl⟩
 refine hK.out _ _ hS1 (fun hHeld => ?_)
 clear hK K
 try simp only [Act.put,qk1,qk2,qk3,qk4,qk5,qk6]
 refine tkr 7 rfl (fun K hK => ?_)
 go_simp
 go_at_call 10
 refine (HVR.out _).mono ?_
 rintro e v2 ⟨rfl, hs⟩
 have HD := hD (HD.out.below hs)
 have HX := hD (bz_on HX.out hs)
 clear hs
 go_wp2_with fail
 have hS2 : World.cell? v2 ⟨gd, 0, none⟩ = some (.slice A n c) ∧ World.cell? v2 ⟨gd, 1, none⟩ = some (.slice B n2 c2) ∧ World.cell? v2 ⟨gd, 2, none⟩ = some (.int .u16 u) ∧ World.cell? v2 ⟨gd, 3, none⟩ = some (.slice D n3 c3) ∧ World.cell? v2 ⟨gd, 4, none⟩ = some (.slice E n4 c4) ∧ World.cell? v2 ⟨gd, 5, none⟩ = some (.slice F k c5) ∧ World.cell? v2 ⟨w.heap.size + 1, 0, none⟩ = some (.int .i64 kd) ∧ World.cell? v2 ⟨w.heap.size + 1, 1, none⟩ = some (.int .i64 sv) ∧ World.cell? v2 ⟨w.heap.size + 1, 2, none⟩ = some (.int .i64 tt) ∧ World.cell? v2 ⟨w.heap.size + 1, 3, none⟩ = some (.int .i64 vw) ∧ World.cell? v2 ⟨w.heap.size + 1, 4, none⟩ = some (.int .i64 sl) ∧ World.cell? v2 ⟨w.heap.size + 1, 5, none⟩ = some (.int .i64 vl) ∧ World.cell? v2 ⟨w.heap.size + 1, 6, none⟩ = some (.int .i64 pk) := ⟨HD.out.cells 0 _ rfl, HD.out.cells 1 _ rfl, HD.out.cells 2 _ rfl, HD.out.cells 3 _ rfl, HD.out.cells 4 _ rfl, HD.out.cells 5 _ rfl, bz_y HX.out 0 _ rfl, bz_y HX.out 1 _ rfl, bz_y HX.out 2 _ rfl, bz_y HX.out 3 _ rfl, bz_y HX.out 4 _ rfl, bz_y HX.out 5 _ rfl, bz_y HX.out 6 _ rfl⟩
 refine hK.out _ _ hS2 (fun hHeld => ?_)
 clear hK K
 try simp only [Act.put,qk1,qk2,qk3,qk4,qk5,qk6]
 refine tkq 8 rfl (v := ?_) (.inl ⟨by rfl, ?_⟩) (by assumption) ?_
 rotate_left
 · intro W h; (try dsimp only at h); go_simp; try with_reducible rfl
 try simp only [Act.put,qk1,qk2,qk3,qk4,qk5,qk6]
 refine tkq 9 rfl (v := ?_) (.inl ⟨by rfl, ?_⟩) (by assumption) ?_
 rotate_left
 · intro W h; (try dsimp only at h); go_simp; try with_reducible rfl
 try simp only [Act.put,qk1,qk2,qk3,qk4,qk5,qk6]
 refine wpAnyH_done (by kernel_rfl) ?_ _
 go_wp2_with fail
 go_ret
 exact ret_bl (by simp) (bz_low HX.out)
end Go.Proofs.YtikpcebhcnjkhaaGreatDoor
