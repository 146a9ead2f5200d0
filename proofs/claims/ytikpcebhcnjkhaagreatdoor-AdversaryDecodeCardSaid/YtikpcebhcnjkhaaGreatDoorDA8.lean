/- adversary.Decode at the example. -/
import Derived.Deep.Cut
import Derived.Deep.CutRange
import Derived.Great.BuildSlice
import Derived.Test.YtikpcebhcnjkhaaGreatDoorDPl
import Derived.Test.YtikpcebhcnjkhaaGreatDoorDA6
import Derived.Test.YtikpcebhcnjkhaaGreatDoorDAdvK
import Derived.Test.YtikpcebhcnjkhaaGreatDoorDA7
import Derived.Test.YtikpcebhcnjkhaaGreatDoorDAdvXo
import Derived.Test.YtikpcebhcnjkhaaGreatDoorDA5
import Derived.Test.YtikpcebhcnjkhaaGreatDoorDVb
namespace Go.Proofs.YtikpcebhcnjkhaaGreatDoor
open Go.RowKit
theorem world_eqA {P : Program} {c : Code} {Q : Exit → Act → World → Prop} {a : Act} {W W' : World} (h : W = W') (k : Code.wp P c Q a W') : Code.wp P c Q a W := h ▸ k
theorem rd_two {w : World} {g : Nat} (h : w.cell? ⟨g, 0, none⟩ = some (.int .i64 2)) : Rd w 1 (some ⟨g, 0, none⟩) [2].length (natC [2]) := ⟨rfl, fun _ => ⟨g, 0, rfl, Lib.lt_of_cell h, fun j u hu => by
 match j, hu with
 | 0, hu => simp [natC] at hu; rw [← hu]; exact h⟩⟩
theorem dsame {P : Program} {k : FuncId} {args : Array Value} {w : World} {v : Value} (h : Calls P k args w (Same v w)) : Calls P k args w (fun e w' => e = .returned v ∧ Below w.heap.size w w') := same_b h
def BYl (i : Nat) : Nat := [2, 0, 1, 0, 0, 1, 0].getD i 0
theorem BYl_eq : ∀ i (h : i < 7), ([2, 0, 1, 0, 0, 1, 0] : List Nat)[i]'h = BYl i := by decide
theorem BYl_lt : ∀ i (h : i < 7), ([2, 0, 1, 0, 0, 1, 0] : List Nat)[i]'h < 256 := by decide
theorem far7 {w : World} {b g j : Nat} {v : Value} (h : w.cell? ⟨b, j, none⟩ = some v) (hne : b ≠ g) (a0 a1 a2 a3 a4 a5 a6 : Value) : ((((((((w.setCell ⟨g, 0, none⟩ a0).setCell ⟨g, 1, none⟩ a1).setCell ⟨g, 2, none⟩ a2).setCell ⟨g, 3, none⟩ a3).setCell ⟨g, 4, none⟩ a4).setCell ⟨g, 5, none⟩ a5).setCell ⟨g, 6, none⟩ a6)).cell? ⟨b, j, none⟩ = some v := by
 have q : ∀ (W : World) (i : Nat) (u : Value), (W.setCell ⟨g, i, none⟩ u).cell? ⟨b, j, none⟩ = W.cell? ⟨b, j, none⟩ := fun W i u => World.cell?_setCell_other _ _ _ _ (set_ne _ _ (Ne.symm hne))
 rw [q, q, q, q, q, q, q, h]
set_option maxRecDepth 100000 in
set_option maxHeartbeats 20000000 in
theorem decode_ex (A B D E F : Option Addr) (u : Int) (c n2 c2 n3 c3 n4 c4 c5 : Nat) (b1 : Nat) (w : World) (ht : Tz w) (hb1 : b1 < w.heap.size) (hby : ∀ j v, (BY [2, 0, 1, 0, 0, 1, 0])[j]? = some v → w.cell? ⟨b1, j, none⟩ = some v) : Calls Tryz.prog 14 #[.agg #[.slice A 4 c, .slice B n2 c2, .int .u16 u, .slice D n3 c3, .slice E n4 c4, .slice F 0 c5], .int .u16 4, .slice (some ⟨b1, 0, none⟩) 7 7] w (fun e w' => e = .returned (.tuple #[.agg #[.int .i64 3, .int .i64 2, .int .i64 1, .int .i64 1, .int .i64 0, .int .i64 1, .int .i64 0], .int .i64 0]) ∧ Below w.heap.size w w') := by
 have D2c : ∀ (i : Nat) (m r : Int) (W : World), W.cell? ⟨w.heap.size + 1, 0, none⟩ = some (.slice (some ⟨b1, 0, none⟩) 7 7) → Below w.heap.size w W → (i < 7 ∧ 0 < m ∧ m ≤ 1000) → (((BYl i : Nat) : Int) % m = r) → Calls Tryz.prog 36 #[.int .i64 (i : Int), .int .i64 m, .pointer (some ⟨w.heap.size + 1, 0, none⟩)] W (Same (.int .i64 r) W) := fun i m r W hc hB hi hr => by
  have h9 := dec2_any i m (w.heap.size + 1) b1 0 7 [2, 0, 1, 0, 0, 1, 0] W hc (fun j v hj => by rw [Nat.zero_add]; exact (hB.cell (p := ⟨b1, j, none⟩) hb1).trans (hby j v hj)) hi.1 (BYl_lt i hi.1) hi.2.1 hi.2.2
  have e9 := BYl_eq i hi.1
  rw [← hr, ← e9]
  exact h9
 have HRc : Hid (∀ W, Calls Tryz.prog 27 #[.agg #[.slice A 4 c, .slice B n2 c2, .int .u16 u, .slice D n3 c3, .slice E n4 c4, .slice F 0 c5], .int .i64 3] W (RetInt 4 W)) := hD (fun W => recvP_any A B D E F u 4 c n2 c2 n3 c3 n4 c4 0 c5 3 W (by decide))
 have HL0 : Hid (Below w.heap.size w (((w.alloc (.cells #[.slice A 4 c, .slice B n2 c2, .int .u16 u, .slice D n3 c3, .slice E n4 c4, .slice F 0 c5] 36)).alloc (.cells #[.slice (some ⟨b1, 0, none⟩) 7 7] 53)).alloc (.cells #[.int .i64 0, .int .i64 0, .int .i64 0, .int .i64 0, .int .i64 0, .int .i64 0, .int .i64 0] 28))) := hD (bon (bon (below_new w _) (below_new _ _)) (below_new _ _))
 have HD0 : Hid (Vz (((w.alloc (.cells #[.slice A 4 c, .slice B n2 c2, .int .u16 u, .slice D n3 c3, .slice E n4 c4, .slice F 0 c5] 36)).alloc (.cells #[.slice (some ⟨b1, 0, none⟩) 7 7] 53)).alloc (.cells #[.int .i64 0, .int .i64 0, .int .i64 0, .int .i64 0, .int .i64 0, .int .i64 0, .int .i64 0] 28)) w.heap.size [.slice A 4 c, .slice B n2 c2, .int .u16 u, .slice D n3 c3, .slice E n4 c4, .slice F 0 c5]) := hD (((Vz.new w [.slice A 4 c, .slice B n2 c2, .int .u16 u, .slice D n3 c3, .slice E n4 c4, .slice F 0 c5] 36).below (below_new _ _)).below (below_new _ _))
 have HS0 : Hid (Vz (((w.alloc (.cells #[.slice A 4 c, .slice B n2 c2, .int .u16 u, .slice D n3 c3, .slice E n4 c4, .slice F 0 c5] 36)).alloc (.cells #[.slice (some ⟨b1, 0, none⟩) 7 7] 53)).alloc (.cells #[.int .i64 0, .int .i64 0, .int .i64 0, .int .i64 0, .int .i64 0, .int .i64 0, .int .i64 0] 28)) (w.heap.size + 1) [.slice (some ⟨b1, 0, none⟩) 7 7]) := hD (by
  have h9 := (Vz.new (w.alloc (.cells #[.slice A 4 c, .slice B n2 c2, .int .u16 u, .slice D n3 c3, .slice E n4 c4, .slice F 0 c5] 36)) [.slice (some ⟨b1, 0, none⟩) 7 7] 53).below (below_new _ (.cells #[.int .i64 0, .int .i64 0, .int .i64 0, .int .i64 0, .int .i64 0, .int .i64 0, .int .i64 0] 28))
  rw [World.size_alloc] at h9
  exact h9)
 have HR0 : Hid (Vz (((w.alloc (.cells #[.slice A 4 c, .slice B n2 c2, .int .u16 u, .slice D n3 c3, .slice E n4 c4, .slice F 0 c5] 36)).alloc (.cells #[.slice (some ⟨b1, 0, none⟩) 7 7] 53)).alloc (.cells #[.int .i64 0, .int .i64 0, .int .i64 0, .int .i64 0, .int .i64 0, .int .i64 0, .int .i64 0] 28)) (w.heap.size + 2) [.int .i64 0, .int .i64 0, .int .i64 0, .int .i64 0, .int .i64 0, .int .i64 0, .int .i64 0]) := hD (by
  have h9 := Vz.new ((w.alloc (.cells #[.slice A 4 c, .slice B n2 c2, .int .u16 u, .slice D n3 c3, .slice E n4 c4, .slice F 0 c5] 36)).alloc (.cells #[.slice (some ⟨b1, 0, none⟩) 7 7] 53)) [.int .i64 0, .int .i64 0, .int .i64 0, .int .i64 0, .int .i64 0, .int .i64 0, .int .i64 0] 28
  rw [World.size_alloc, World.size_alloc] at h9
  exact h9)
 obtain ⟨w3, hw3⟩ : ∃ w3, w3 = (((w.alloc (.cells #[.slice A 4 c, .slice B n2 c2, .int .u16 u, .slice D n3 c3, .slice E n4 c4, .slice F 0 c5] 36)).alloc (.cells #[.slice (some ⟨b1, 0, none⟩) 7 7] 53)).alloc (.cells #[.int .i64 0, .int .i64 0, .int .i64 0, .int .i64 0, .int .i64 0, .int .i64 0, .int .i64 0] 28)) := ⟨_, rfl⟩
 rw [← hw3] at HL0 HD0 HS0 HR0
 have HW3 : Hid ((((w.alloc (.cells #[.slice A 4 c, .slice B n2 c2, .int .u16 u, .slice D n3 c3, .slice E n4 c4, .slice F 0 c5] 36)).alloc (.cells #[.slice (some ⟨b1, 0, none⟩) 7 7] 53)).alloc (.cells #[.int .i64 0, .int .i64 0, .int .i64 0, .int .i64 0, .int .i64 0, .int .i64 0, .int .i64 0] 28)) = w3) := hD hw3.symm
 have HM := hD (members4_any w3 (ht.below HL0.out))
 have HBy := hD hby
 have HD2 := hD D2c
 clear hw3 ht hby D2c
 go_enter Tryz.func14, Tryz.ntmps14
 go_upto_region 1 with fail
 refine world_eqA HW3.out ?_
 have x0 := HS0.out.cells 0 _ rfl
 have lx := HS0.out.lt
 go_wp2_with fail
 refine HM.out.mono ?_
 rintro e w4 ⟨lb, c9, rfl, hg9, hq9, hb9⟩
 have HL1 := hD (bon HL0.out hb9)
 have HD1 := hD (HD0.out.below hb9)
 have HS1 := hD (HS0.out.below hb9)
 have HR1 := hD (HR0.out.below hb9)
 have HQ1 := hD hq9
 have HDel := hD (del_any (some ⟨lb, 0, none⟩) c9 w.heap.size A 4 c [2] w4 (rd_two hq9) (HD1.out.cells 0 _ rfl) (by decide) (by simp))
 have hlb : lb ≠ w.heap.size + 2 := by have := HR0.out.lt; omega
 clear hq9 hg9 hb9 x0 lx
 go_wp2_with fail
 refine HDel.out.mono ?_
 rintro e w5 ⟨rfl, rfl⟩
 go_wp2_with fail
 refine (kindsP_any w4).mono ?_
 rintro e v1 ⟨A7, c7, rfl, hr7, hb7⟩
 have HL := hD (bon HL1.out hb7)
 have HD := hD (HD1.out.below hb7)
 have HS := hD (HS1.out.below hb7)
 have HR := hD (HR1.out.below hb7)
 have HQ := hD ((hb7.cell (p := ⟨lb, 0, none⟩) (Lib.lt_of_cell HQ1.out)).trans HQ1.out)
 have HK7 := hD hr7
 clear hr7 hb7
 have D2c := HD2.out
 go_wp2_with fail
 refine (D2c 0 5 2 _ (HS.out.cells 0 _ rfl) HL.out (by decide) (by decide)).mono ?_
 rintro e v2 ⟨rfl, rfl⟩
 have HD2 := hD D2c
 clear D2c
 obtain ⟨kb, ko, rfl, hkl, hkc⟩ := HK7.out.cells (by simp [intC])
 have k2 : v1.cell? ⟨kb, ko + 2, none⟩ = some (.int .i64 3) := hkc 2 _ rfl
 clear hkc
 go_upto_region 8 with fail
 have hne0 : some (w.heap.size + 2) ≠ some w.heap.size := by simp
 have hne1 : some (w.heap.size + 2) ≠ some (w.heap.size + 1) := by simp
 have hge : w.heap.size ≤ w.heap.size + 2 := by omega
 have hby := HBy.out
 have D2c := HD2.out
 have HBy := hD hby
 have HD2 := hD D2c
 clear hby D2c k2
 refine wp_region_noPanic ?_
 have HL : Hid (Below w.heap.size w v1.drew) := hD (bon HL.out (Below.refl _ _).drew)
 have HD : Hid (Vz v1.drew w.heap.size [.slice A 4 c, .slice B n2 c2, .int .u16 u, .slice D n3 c3, .slice E n4 c4, .slice F 0 c5]) := hD (HD.out.below (Below.refl _ _).drew)
 have HS : Hid (Vz v1.drew (w.heap.size + 1) [.slice (some ⟨b1, 0, none⟩) 7 7]) := hD (HS.out.below (Below.refl _ _).drew)
 have HR : Hid (Vz v1.drew (w.heap.size + 2) [.int .i64 0, .int .i64 0, .int .i64 0, .int .i64 0, .int .i64 0, .int .i64 0, .int .i64 0]) := hD (HR.out.below (Below.refl _ _).drew)
 have HQ : Hid (World.cell? v1.drew ⟨lb, 0, none⟩ = some (.int .i64 2)) := hD (((Below.refl _ _).drew.cell (p := ⟨lb, 0, none⟩) (Lib.lt_of_cell HQ.out)).trans HQ.out)
 generalize hv : v1.drew = v0 at HL HD HS HR HQ
 have hS0 : World.cell? v0 ⟨w.heap.size, 0, none⟩ = some (.slice A 4 c) ∧ World.cell? v0 ⟨w.heap.size, 1, none⟩ = some (.slice B n2 c2) ∧ World.cell? v0 ⟨w.heap.size, 2, none⟩ = some (.int .u16 u) ∧ World.cell? v0 ⟨w.heap.size, 3, none⟩ = some (.slice D n3 c3) ∧ World.cell? v0 ⟨w.heap.size, 4, none⟩ = some (.slice E n4 c4) ∧ World.cell? v0 ⟨w.heap.size, 5, none⟩ = some (.slice F 0 c5) ∧ World.cell? v0 ⟨w.heap.size + 1, 0, none⟩ = some (.slice (some ⟨b1, 0, none⟩) 7 7) ∧ World.cell? v0 ⟨lb, 0, none⟩ = some (.int .i64 2) ∧ World.cell? v0 ⟨b1, 6, none⟩ = some (.int .u8 0) := ⟨HD.out.cells 0 _ rfl, HD.out.cells 1 _ rfl, HD.out.cells 2 _ rfl, HD.out.cells 3 _ rfl, HD.out.cells 4 _ rfl, HD.out.cells 5 _ rfl, HS.out.cells 0 _ rfl, HQ.out, (HL.out.cell (p := ⟨b1, 6, none⟩) hb1).trans (HBy.out 6 _ rfl)⟩
 refine wp_region_held_drew (S := fun W => World.cell? W ⟨w.heap.size, 0, none⟩ = some (.slice A 4 c) ∧ World.cell? W ⟨w.heap.size, 1, none⟩ = some (.slice B n2 c2) ∧ World.cell? W ⟨w.heap.size, 2, none⟩ = some (.int .u16 u) ∧ World.cell? W ⟨w.heap.size, 3, none⟩ = some (.slice D n3 c3) ∧ World.cell? W ⟨w.heap.size, 4, none⟩ = some (.slice E n4 c4) ∧ World.cell? W ⟨w.heap.size, 5, none⟩ = some (.slice F 0 c5) ∧ World.cell? W ⟨w.heap.size + 1, 0, none⟩ = some (.slice (some ⟨b1, 0, none⟩) 7 7) ∧ World.cell? W ⟨lb, 0, none⟩ = some (.int .i64 2) ∧ World.cell? W ⟨b1, 6, none⟩ = some (.int .u8 0)) (by kernel_rfl) (by rw [hv]; exact hS0) (fun hHeld => ?_)
 rw [hv] at hHeld ⊢
 clear hv
 refine takes [0,1,2,3,4,8,9,10,13,16,18,20,21,22,23] ?_
 refine tkr 5 rfl (fun K hK => ?_)
 go_simp
 go_at_call 36
 refine (dsame (HD2.out 1 1 0 _ (HS.out.cells 0 _ rfl) HL.out (by decide) (by decide))).mono ?_
 rintro e v1 ⟨rfl, hs⟩
 have HL := hD (bon HL.out hs)
 have HD := hD (HD.out.below hs)
 have HS := hD (HS.out.below hs)
 have HR := hD (HR.out.below hs)
 have HQ := hD ((hs.cell (p := ⟨lb, 0, none⟩) (Lib.lt_of_cell HQ.out)).trans HQ.out)
 clear hs
 go_wp2_with fail
 have hS1 : World.cell? v1 ⟨w.heap.size, 0, none⟩ = some (.slice A 4 c) ∧ World.cell? v1 ⟨w.heap.size, 1, none⟩ = some (.slice B n2 c2) ∧ World.cell? v1 ⟨w.heap.size, 2, none⟩ = some (.int .u16 u) ∧ World.cell? v1 ⟨w.heap.size, 3, none⟩ = some (.slice D n3 c3) ∧ World.cell? v1 ⟨w.heap.size, 4, none⟩ = some (.slice E n4 c4) ∧ World.cell? v1 ⟨w.heap.size, 5, none⟩ = some (.slice F 0 c5) ∧ World.cell? v1 ⟨w.heap.size + 1, 0, none⟩ = some (.slice (some ⟨b1, 0, none⟩) 7 7) ∧ World.cell? v1 ⟨lb, 0, none⟩ = some (.int .i64 2) ∧ World.cell? v1 ⟨b1, 6, none⟩ = some (.int .u8 0) := ⟨HD.out.cells 0 _ rfl, HD.out.cells 1 _ rfl, HD.out.cells 2 _ rfl, HD.out.cells 3 _ rfl, HD.out.cells 4 _ rfl, HD.out.cells 5 _ rfl, HS.out.cells 0 _ rfl, HQ.out, (HL.out.cell (p := ⟨b1, 6, none⟩) hb1).trans (HBy.out 6 _ rfl)⟩
 refine hK.out _ _ hS1 (fun hHeld => ?_)
 clear hK K
 try simp only [Act.put,qk1,qk2,qk3,qk4,qk5,qk6]
 refine takes [6,7] ?_
 refine tkr 11 rfl (fun K hK => ?_)
 go_simp
 go_at_call 27
 refine (HRc.out _).mono ?_
 rintro e v2 ⟨rfl, hs⟩
 have HL := hD (bon HL.out hs)
 have HD := hD (HD.out.below hs)
 have HS := hD (HS.out.below hs)
 have HR := hD (HR.out.below hs)
 have HQ := hD ((hs.cell (p := ⟨lb, 0, none⟩) (Lib.lt_of_cell HQ.out)).trans HQ.out)
 clear hs
 go_wp2_with fail
 have hS2 : World.cell? v2 ⟨w.heap.size, 0, none⟩ = some (.slice A 4 c) ∧ World.cell? v2 ⟨w.heap.size, 1, none⟩ = some (.slice B n2 c2) ∧ World.cell? v2 ⟨w.heap.size, 2, none⟩ = some (.int .u16 u) ∧ World.cell? v2 ⟨w.heap.size, 3, none⟩ = some (.slice D n3 c3) ∧ World.cell? v2 ⟨w.heap.size, 4, none⟩ = some (.slice E n4 c4) ∧ World.cell? v2 ⟨w.heap.size, 5, none⟩ = some (.slice F 0 c5) ∧ World.cell? v2 ⟨w.heap.size + 1, 0, none⟩ = some (.slice (some ⟨b1, 0, none⟩) 7 7) ∧ World.cell? v2 ⟨lb, 0, none⟩ = some (.int .i64 2) ∧ World.cell? v2 ⟨b1, 6, none⟩ = some (.int .u8 0) := ⟨HD.out.cells 0 _ rfl, HD.out.cells 1 _ rfl, HD.out.cells 2 _ rfl, HD.out.cells 3 _ rfl, HD.out.cells 4 _ rfl, HD.out.cells 5 _ rfl, HS.out.cells 0 _ rfl, HQ.out, (HL.out.cell (p := ⟨b1, 6, none⟩) hb1).trans (HBy.out 6 _ rfl)⟩
 refine hK.out _ _ hS2 (fun hHeld => ?_)
 clear hK K
 try simp only [Act.put,qk1,qk2,qk3,qk4,qk5,qk6]
 refine tkr 12 rfl (fun K hK => ?_)
 go_simp
 go_at_call 36
 refine (dsame (HD2.out 2 4 1 _ (HS.out.cells 0 _ rfl) HL.out (by decide) (by decide))).mono ?_
 rintro e v3 ⟨rfl, hs⟩
 have HL := hD (bon HL.out hs)
 have HD := hD (HD.out.below hs)
 have HS := hD (HS.out.below hs)
 have HR := hD (HR.out.below hs)
 have HQ := hD ((hs.cell (p := ⟨lb, 0, none⟩) (Lib.lt_of_cell HQ.out)).trans HQ.out)
 clear hs
 go_wp2_with fail
 have hS3 : World.cell? v3 ⟨w.heap.size, 0, none⟩ = some (.slice A 4 c) ∧ World.cell? v3 ⟨w.heap.size, 1, none⟩ = some (.slice B n2 c2) ∧ World.cell? v3 ⟨w.heap.size, 2, none⟩ = some (.int .u16 u) ∧ World.cell? v3 ⟨w.heap.size, 3, none⟩ = some (.slice D n3 c3) ∧ World.cell? v3 ⟨w.heap.size, 4, none⟩ = some (.slice E n4 c4) ∧ World.cell? v3 ⟨w.heap.size, 5, none⟩ = some (.slice F 0 c5) ∧ World.cell? v3 ⟨w.heap.size + 1, 0, none⟩ = some (.slice (some ⟨b1, 0, none⟩) 7 7) ∧ World.cell? v3 ⟨lb, 0, none⟩ = some (.int .i64 2) ∧ World.cell? v3 ⟨b1, 6, none⟩ = some (.int .u8 0) := ⟨HD.out.cells 0 _ rfl, HD.out.cells 1 _ rfl, HD.out.cells 2 _ rfl, HD.out.cells 3 _ rfl, HD.out.cells 4 _ rfl, HD.out.cells 5 _ rfl, HS.out.cells 0 _ rfl, HQ.out, (HL.out.cell (p := ⟨b1, 6, none⟩) hb1).trans (HBy.out 6 _ rfl)⟩
 refine hK.out _ _ hS3 (fun hHeld => ?_)
 clear hK K
 try simp only [Act.put,qk1,qk2,qk3,qk4,qk5,qk6]
 refine tkr 14 rfl (fun K hK => ?_)
 go_simp
 go_at_call 36
 refine (dsame (HD2.out 3 8 0 _ (HS.out.cells 0 _ rfl) HL.out (by decide) (by decide))).mono ?_
 rintro e v4 ⟨rfl, hs⟩
 have HL := hD (bon HL.out hs)
 have HD := hD (HD.out.below hs)
 have HS := hD (HS.out.below hs)
 have HR := hD (HR.out.below hs)
 have HQ := hD ((hs.cell (p := ⟨lb, 0, none⟩) (Lib.lt_of_cell HQ.out)).trans HQ.out)
 clear hs
 go_wp2_with fail
 have hS4 : World.cell? v4 ⟨w.heap.size, 0, none⟩ = some (.slice A 4 c) ∧ World.cell? v4 ⟨w.heap.size, 1, none⟩ = some (.slice B n2 c2) ∧ World.cell? v4 ⟨w.heap.size, 2, none⟩ = some (.int .u16 u) ∧ World.cell? v4 ⟨w.heap.size, 3, none⟩ = some (.slice D n3 c3) ∧ World.cell? v4 ⟨w.heap.size, 4, none⟩ = some (.slice E n4 c4) ∧ World.cell? v4 ⟨w.heap.size, 5, none⟩ = some (.slice F 0 c5) ∧ World.cell? v4 ⟨w.heap.size + 1, 0, none⟩ = some (.slice (some ⟨b1, 0, none⟩) 7 7) ∧ World.cell? v4 ⟨lb, 0, none⟩ = some (.int .i64 2) ∧ World.cell? v4 ⟨b1, 6, none⟩ = some (.int .u8 0) := ⟨HD.out.cells 0 _ rfl, HD.out.cells 1 _ rfl, HD.out.cells 2 _ rfl, HD.out.cells 3 _ rfl, HD.out.cells 4 _ rfl, HD.out.cells 5 _ rfl, HS.out.cells 0 _ rfl, HQ.out, (HL.out.cell (p := ⟨b1, 6, none⟩) hb1).trans (HBy.out 6 _ rfl)⟩
 refine hK.out _ _ hS4 (fun hHeld => ?_)
 clear hK K
 try simp only [Act.put,qk1,qk2,qk3,qk4,qk5,qk6]
 refine takes [15] ?_
 refine tkr 17 rfl (fun K hK => ?_)
 go_simp
 go_at_call 36
 refine (dsame (HD2.out 4 4 0 _ (HS.out.cells 0 _ rfl) HL.out (by decide) (by decide))).mono ?_
 rintro e v5 ⟨rfl, hs⟩
 have HL := hD (bon HL.out hs)
 have HD := hD (HD.out.below hs)
 have HS := hD (HS.out.below hs)
 have HR := hD (HR.out.below hs)
 have HQ := hD ((hs.cell (p := ⟨lb, 0, none⟩) (Lib.lt_of_cell HQ.out)).trans HQ.out)
 clear hs
 go_wp2_with fail
 have hS5 : World.cell? v5 ⟨w.heap.size, 0, none⟩ = some (.slice A 4 c) ∧ World.cell? v5 ⟨w.heap.size, 1, none⟩ = some (.slice B n2 c2) ∧ World.cell? v5 ⟨w.heap.size, 2, none⟩ = some (.int .u16 u) ∧ World.cell? v5 ⟨w.heap.size, 3, none⟩ = some (.slice D n3 c3) ∧ World.cell? v5 ⟨w.heap.size, 4, none⟩ = some (.slice E n4 c4) ∧ World.cell? v5 ⟨w.heap.size, 5, none⟩ = some (.slice F 0 c5) ∧ World.cell? v5 ⟨w.heap.size + 1, 0, none⟩ = some (.slice (some ⟨b1, 0, none⟩) 7 7) ∧ World.cell? v5 ⟨lb, 0, none⟩ = some (.int .i64 2) ∧ World.cell? v5 ⟨b1, 6, none⟩ = some (.int .u8 0) := ⟨HD.out.cells 0 _ rfl, HD.out.cells 1 _ rfl, HD.out.cells 2 _ rfl, HD.out.cells 3 _ rfl, HD.out.cells 4 _ rfl, HD.out.cells 5 _ rfl, HS.out.cells 0 _ rfl, HQ.out, (HL.out.cell (p := ⟨b1, 6, none⟩) hb1).trans (HBy.out 6 _ rfl)⟩
 refine hK.out _ _ hS5 (fun hHeld => ?_)
 clear hK K
 try simp only [Act.put,qk1,qk2,qk3,qk4,qk5,qk6]
 refine tkr 19 rfl (fun K hK => ?_)
 go_simp
 go_at_call 36
 refine (dsame (HD2.out 5 8 1 _ (HS.out.cells 0 _ rfl) HL.out (by decide) (by decide))).mono ?_
 rintro e v6 ⟨rfl, hs⟩
 have HL := hD (bon HL.out hs)
 have HD := hD (HD.out.below hs)
 have HS := hD (HS.out.below hs)
 have HR := hD (HR.out.below hs)
 have HQ := hD ((hs.cell (p := ⟨lb, 0, none⟩) (Lib.lt_of_cell HQ.out)).trans HQ.out)
 clear hs
 go_wp2_with fail
 have hS6 : World.cell? v6 ⟨w.heap.size, 0, none⟩ = some (.slice A 4 c) ∧ World.cell? v6 ⟨w.heap.size, 1, none⟩ = some (.slice B n2 c2) ∧ World.cell? v6 ⟨w.heap.size, 2, none⟩ = some (.int .u16 u) ∧ World.cell? v6 ⟨w.heap.size, 3, none⟩ = some (.slice D n3 c3) ∧ World.cell? v6 ⟨w.heap.size, 4, none⟩ = some (.slice E n4 c4) ∧ World.cell? v6 ⟨w.heap.size, 5, none⟩ = some (.slice F 0 c5) ∧ World.cell? v6 ⟨w.heap.size + 1, 0, none⟩ = some (.slice (some ⟨b1, 0, none⟩) 7 7) ∧ World.cell? v6 ⟨lb, 0, none⟩ = some (.int .i64 2) ∧ World.cell? v6 ⟨b1, 6, none⟩ = some (.int .u8 0) := ⟨HD.out.cells 0 _ rfl, HD.out.cells 1 _ rfl, HD.out.cells 2 _ rfl, HD.out.cells 3 _ rfl, HD.out.cells 4 _ rfl, HD.out.cells 5 _ rfl, HS.out.cells 0 _ rfl, HQ.out, (HL.out.cell (p := ⟨b1, 6, none⟩) hb1).trans (HBy.out 6 _ rfl)⟩
 refine hK.out _ _ hS6 (fun hHeld => ?_)
 clear hK K
 try simp only [Act.put,qk1,qk2,qk3,qk4,qk5,qk6]
 refine takes [24] ?_
 have z0 := HR.out.cells 0 _ rfl
 have f0 := HR.out.free 0 (by simp)
 have z1 := HR.out.cells 1 _ rfl
 have f1 := HR.out.free 1 (by simp)
 have z2 := HR.out.cells 2 _ rfl
 have f2 := HR.out.free 2 (by simp)
 have z3 := HR.out.cells 3 _ rfl
 have f3 := HR.out.free 3 (by simp)
 have z4 := HR.out.cells 4 _ rfl
 have f4 := HR.out.free 4 (by simp)
 have z5 := HR.out.cells 5 _ rfl
 have f5 := HR.out.free 5 (by simp)
 have z6 := HR.out.cells 6 _ rfl
 have f6 := HR.out.free 6 (by simp)
 have lr := HR.out.lt
 refine tkr 25 rfl (fun K hK => ?_)
 go_simp
 simp only [show IntKind.i64.wrap 1 = 1 from by kernel_rfl, show IntKind.i64.wrap 0 = 0 from by kernel_rfl, show w.heap.size + 1 + 1 = w.heap.size + 2 from rfl]
 have hL := (((((((HL.out.setCell (p := ⟨w.heap.size + 2, 0, none⟩) hge (.int .i64 3)).setCell (p := ⟨w.heap.size + 2, 1, none⟩) hge (.int .i64 2)).setCell (p := ⟨w.heap.size + 2, 2, none⟩) hge (.int .i64 1)).setCell (p := ⟨w.heap.size + 2, 3, none⟩) hge (.int .i64 1)).setCell (p := ⟨w.heap.size + 2, 4, none⟩) hge (.int .i64 0)).setCell (p := ⟨w.heap.size + 2, 5, none⟩) hge (.int .i64 1)).setCell (p := ⟨w.heap.size + 2, 6, none⟩) hge (.int .i64 0))
 have hDd := (((((((HD.out.grown (grown_set _ ⟨w.heap.size + 2, 0, none⟩ (.int .i64 3)) hne0).grown (grown_set _ ⟨w.heap.size + 2, 1, none⟩ (.int .i64 2)) hne0).grown (grown_set _ ⟨w.heap.size + 2, 2, none⟩ (.int .i64 1)) hne0).grown (grown_set _ ⟨w.heap.size + 2, 3, none⟩ (.int .i64 1)) hne0).grown (grown_set _ ⟨w.heap.size + 2, 4, none⟩ (.int .i64 0)) hne0).grown (grown_set _ ⟨w.heap.size + 2, 5, none⟩ (.int .i64 1)) hne0).grown (grown_set _ ⟨w.heap.size + 2, 6, none⟩ (.int .i64 0)) hne0)
 have hS := (((((((HS.out.grown (grown_set _ ⟨w.heap.size + 2, 0, none⟩ (.int .i64 3)) hne1).grown (grown_set _ ⟨w.heap.size + 2, 1, none⟩ (.int .i64 2)) hne1).grown (grown_set _ ⟨w.heap.size + 2, 2, none⟩ (.int .i64 1)) hne1).grown (grown_set _ ⟨w.heap.size + 2, 3, none⟩ (.int .i64 1)) hne1).grown (grown_set _ ⟨w.heap.size + 2, 4, none⟩ (.int .i64 0)) hne1).grown (grown_set _ ⟨w.heap.size + 2, 5, none⟩ (.int .i64 1)) hne1).grown (grown_set _ ⟨w.heap.size + 2, 6, none⟩ (.int .i64 0)) hne1)
 have hR := (((((((HR.out.set 0 (.int .i64 3)).set 1 (.int .i64 2)).set 2 (.int .i64 1)).set 3 (.int .i64 1)).set 4 (.int .i64 0)).set 5 (.int .i64 1)).set 6 (.int .i64 0)).eq (cs' := [.int .i64 3, .int .i64 2, .int .i64 1, .int .i64 1, .int .i64 0, .int .i64 1, .int .i64 0]) rfl
 have hQ := far7 HQ.out hlb (.int .i64 3) (.int .i64 2) (.int .i64 1) (.int .i64 1) (.int .i64 0) (.int .i64 1) (.int .i64 0)
 clear z0 f0 z1 f1 z2 f2 z3 f3 z4 f4 z5 f5 z6 f6 lr
 have HL := hD hL
 have HD := hD hDd
 have HS := hD hS
 have HR := hD hR
 have HQ := hD hQ
 clear hL hDd hS hR hQ
 generalize (World.setCell (World.setCell (World.setCell (World.setCell (World.setCell (World.setCell (World.setCell v6 ⟨w.heap.size + 2, 0, none⟩ (.int .i64 3)) ⟨w.heap.size + 2, 1, none⟩ (.int .i64 2)) ⟨w.heap.size + 2, 2, none⟩ (.int .i64 1)) ⟨w.heap.size + 2, 3, none⟩ (.int .i64 1)) ⟨w.heap.size + 2, 4, none⟩ (.int .i64 0)) ⟨w.heap.size + 2, 5, none⟩ (.int .i64 1)) ⟨w.heap.size + 2, 6, none⟩ (.int .i64 0)) = v8 at HL HD HS HR HQ ⊢
 have hS8 : World.cell? v8 ⟨w.heap.size, 0, none⟩ = some (.slice A 4 c) ∧ World.cell? v8 ⟨w.heap.size, 1, none⟩ = some (.slice B n2 c2) ∧ World.cell? v8 ⟨w.heap.size, 2, none⟩ = some (.int .u16 u) ∧ World.cell? v8 ⟨w.heap.size, 3, none⟩ = some (.slice D n3 c3) ∧ World.cell? v8 ⟨w.heap.size, 4, none⟩ = some (.slice E n4 c4) ∧ World.cell? v8 ⟨w.heap.size, 5, none⟩ = some (.slice F 0 c5) ∧ World.cell? v8 ⟨w.heap.size + 1, 0, none⟩ = some (.slice (some ⟨b1, 0, none⟩) 7 7) ∧ World.cell? v8 ⟨lb, 0, none⟩ = some (.int .i64 2) ∧ World.cell? v8 ⟨b1, 6, none⟩ = some (.int .u8 0) := ⟨HD.out.cells 0 _ rfl, HD.out.cells 1 _ rfl, HD.out.cells 2 _ rfl, HD.out.cells 3 _ rfl, HD.out.cells 4 _ rfl, HD.out.cells 5 _ rfl, HS.out.cells 0 _ rfl, HQ.out, (HL.out.cell (p := ⟨b1, 6, none⟩) hb1).trans (HBy.out 6 _ rfl)⟩
 refine hK.out _ _ hS8 (fun hHeld => ?_)
 clear hK K
 try simp only [Act.put,qk1,qk2,qk3,qk4,qk5,qk6]
 refine takes [26] ?_
 refine wpAnyH_done (by kernel_rfl) ?_ _
 refine NoPanic.normal ?_
 have y0 := HR.out.cells 0 _ rfl
 have y1 := HR.out.cells 1 _ rfl
 have y2 := HR.out.cells 2 _ rfl
 have y3 := HR.out.cells 3 _ rfl
 have y4 := HR.out.cells 4 _ rfl
 have y5 := HR.out.cells 5 _ rfl
 have y6 := HR.out.cells 6 _ rfl
 go_wp2_with fail
 refine bodyPost_ret (v := .tuple #[.agg #[.int .i64 3, .int .i64 2, .int .i64 1, .int .i64 1, .int .i64 0, .int .i64 1, .int .i64 0], .int .i64 0]) (by simp [results, Tryz.results14, go_sem, y0, y1, y2, y3, y4, y5, y6]) rfl ⟨rfl, HL.out⟩
open Go.RowKit Q40
theorem results_mid_slotA {P : Program} {fn : Func} {p q : Tmp} {ty : TypeId} (h : fn.results = #[.cell p ty, .tmp q]) (tmps : Array Value) (w : World) (b : Nat) (cs : List Value) (d : TypeDesc) (v : Value)
    (hp : tmps.getD p undef = .pointer (some ⟨b, 0, none⟩)) (hq : tmps.getD q undef = v) (hc : w.rangeAt b 0 cs) (hu : P.underlying ty = some d) (hd : d.isRow = true) (hi : (P.info? ty).map (·.size) = some cs.length) :
    (results fn tmps).run P w = .ok (.tuple #[.agg cs.toArray, v]) w := by
 have hp' : tmps[p]?.getD undef = .pointer (some ⟨b, 0, none⟩) := by simpa using hp
 have hq' : tmps[q]?.getD undef = v := by simpa using hq
 simp [results, h, hp', hq', asAddr, run_loadVar_mid w b 0 ty cs d hc hu hd hi]
def exMg (v hx tx : List UInt8) : Ms := ⟨3, 2, 1, 1, 0, v, 0, ⟨2, 1, 1, 0, hx, tx⟩, Sl.nil, Sl.nil, ⟨0, [], Sl.nil, Sl.nil, Sl.nil⟩, Sl.nil⟩
theorem i64_0 : I64 0 := ⟨by decide, by decide⟩
theorem i64_1 : I64 1 := ⟨by decide, by decide⟩
theorem i64_2 : I64 2 := ⟨by decide, by decide⟩
theorem i64_3 : I64 3 := ⟨by decide, by decide⟩
theorem exMg_ok (v hx tx : List UInt8) (w : World) : (exMg v hx tx).ok w := by
 refine ⟨⟨i64_3, i64_2, i64_1, i64_1, i64_0, i64_0⟩, ⟨i64_2, i64_1, i64_1, i64_0⟩, ⟨Rd.nil _ _ _, by simp [exMg, Sl.nil]⟩, ⟨Rd.nil _ _ _, by simp [exMg, Sl.nil]⟩, ⟨i64_0, Rd.nil _ _ _, ⟨Rd.nil _ _ _, by simp [exMg, Sl.nil]⟩, Rd.nil _ _ _, by simp [exMg, Sl.nil]⟩, Rd.nil _ _ _⟩
def msZ : Ms := ⟨0, 0, 0, 0, 0, [], 0, ⟨0, 0, 0, 0, [], []⟩, Sl.nil, Sl.nil, ⟨0, [], Sl.nil, Sl.nil, Sl.nil⟩, Sl.nil⟩
def exM1 : Ms := ⟨3, 2, 1, 1, 0, [], 0, ⟨0, 0, 0, 0, [], []⟩, Sl.nil, Sl.nil, ⟨0, [], Sl.nil, Sl.nil, Sl.nil⟩, Sl.nil⟩
theorem below_grA {w w1 w2 : World} {b : Nat} (h : Below w.heap.size w w1) (hg : w1.grownBy w2 (some b)) (hb : w.heap.size ≤ b) : Below w.heap.size w w2 :=
 below_grown h h.size hg (fun g hq => by simp only [Option.some.injEq] at hq; omega)
theorem exMg_valid (v hx tx : List UInt8) (h1 : v.length ≤ 100) (h2 : hx.length = 64) (h3 : tx.length = 16) : vMs (exMg v hx tx) = 0 := by
 have a1 : partB (exMg v hx tx) = false := by kernel_rfl
 have a2 : ∀ p q : Bool, ([true, false, false, p, q, false, false, false, false].zipIdx.any fun x => x.1 && !alw 3 x.2) = false := by decide
 have a3 : spareB (exMg v hx tx) = false := a2 _ _
 have a4 : oneB (exMg v hx tx) = false := by rfl
 have a5 : rangesB (exMg v hx tx) = true := by rfl
 have a6 : lengthsB (exMg v hx tx) = true := by
  have b1 : v.length ≤ 2000 := by omega
  have b2 : hx.length ≤ 64 := by omega
  have b3 : tx.length ≤ 64 := by omega
  simp [lengthsB, headB, rootB, exMg, Sl.nil, sgShort, certShort, tot, b1, b2, b3]
 unfold vMs
 rw [if_neg (by show ¬ ((3 : Int) < 1 ∨ (12 : Int) < 3); decide), a1, a3, a4, a5, a6]
 rfl
theorem exMg_few (v hx tx : List UInt8) : MsFew (exMg v hx tx) := by
 have z : (0 : Nat) ≤ 1099511627776 := by decide
 refine ⟨z, ?_, z, ?_, z, z, z, ?_, z, z⟩ <;> simp [exMg, Sl.nil]
theorem exMg_call (v hx tx : List UInt8) (w : World) (h1 : v.length ≤ 100) (h2 : hx.length = 64) (h3 : tx.length = 16) : Calls Tryz.prog 53 #[.agg (msC (exMg v hx tx)).toArray] w (RetErr 0 w) := by
 have h := valid_in (exMg v hx tx) w (by show ¬ ((3 : Int) < 1 ∨ (12 : Int) < 3); decide) (exMg_ok v hx tx w) (exMg_few v hx tx)
 rw [exMg_valid v hx tx h1 h2 h3] at h
 exact h
def RetSgx (hx : ByteArray) (w : World) (e : Ending) (w' : World) : Prop := (∃ tx : ByteArray, tx.size = 16 ∧ e = .returned (.tuple #[.agg #[.int .i64 2, .int .i64 1, .int .i64 1, .int .i64 0, .string hx, .string tx], .int .i64 0])) ∧ Below w.heap.size w w'
theorem sg_fine (d : List UInt8) (h : d.length ≤ 64) : (⟨2, 1, 1, 0, d, []⟩ : Sg).fine := by
 have a : (0 : Int) ≤ 2 ∧ (2 : Int) ≤ 11 := by decide
 have b : (1 : Int) ≤ 1 ∧ (1 : Int) ≤ 5 := by decide
 have e : (0 : Int) ≤ 1 ∧ (1 : Int) ≤ 2147483647 := by decide
 have f : (0 : Int) ≤ 0 ∧ (0 : Int) ≤ 2147483647 := by decide
 exact ⟨a, b, e, f, h⟩
theorem sign_ex (hx : ByteArray) (w : World) (h : hx.size = 64) : Calls Tryz.prog 51 #[.int .i64 2, .int .i64 1, .int .i64 1, .int .i64 0, .string hx] w (RetSgx hx w) := by
 have hl : hx.data.toList.length = 64 := by rw [len_data]; exact h
 have h9 := sign_any 2 1 1 0 hx.data.toList w (sg_fine _ (by omega)) ⟨i64_2, i64_1, i64_1, i64_0⟩
 rw [str_mk] at h9
 refine h9.mono ?_
 rintro e w' ⟨⟨t, ht, rfl⟩, hb⟩
 exact ⟨⟨⟨t.toArray⟩, by rw [size_mk]; exact ht, by simp only [str_mk]⟩, hb⟩
theorem lie_zero : vLi 4 0 15 ⟨3, 2, 1, 1, 0, 1, 0⟩ = 0 := by decide
theorem msC_oneA (x : Ms) : (msC x).toArray.all (·.oneCell') = true := by simp [msC, Sl.v, Value.oneCell']
theorem infoMsA (x : Ms) : (Tryz.prog.info? 50).map (·.size) = some (msC x).toArray.size := by
 have h : (Tryz.prog.info? 50).map (·.size) = some 21 := by kernel_rfl
 exact h
def RetExM (w : World) (e : Ending) (w' : World) : Prop := (∃ v hx tx : List UInt8, e = .returned (.tuple #[.agg (msC (exMg v hx tx)).toArray, .int .i64 0])) ∧ Below w.heap.size w w'
set_option maxRecDepth 100000 in
set_option maxHeartbeats 20000000 in
theorem message_ex (A B D E F : Option Addr) (u : Int) (c n2 c2 n3 c3 n4 c4 c5 : Nat) (w : World) (he : EnvP w) : Calls Tryz.prog 22 #[.agg #[.slice A 4 c, .slice B n2 c2, .int .u16 u, .slice D n3 c3, .slice E n4 c4, .slice F 0 c5], .agg #[.slice none 0 0, .slice none 0 0], .agg #[.int .i64 3, .int .i64 2, .int .i64 1, .int .i64 1, .int .i64 0, .int .i64 1, .int .i64 0]] w (RetExM w) := by
 have HE := hD he
 obtain ⟨w4, hw4⟩ : ∃ w4, w4 = ((((w.alloc (.cells #[.slice A 4 c, .slice B n2 c2, .int .u16 u, .slice D n3 c3, .slice E n4 c4, .slice F 0 c5] 36)).alloc (.cells #[.slice none 0 0, .slice none 0 0] 59)).alloc (.cells #[.int .i64 3, .int .i64 2, .int .i64 1, .int .i64 1, .int .i64 0, .int .i64 1, .int .i64 0] 28)).alloc (.cells #[.int .i64 0, .int .i64 0, .int .i64 0, .int .i64 0, .int .i64 0, .string ⟨#[]⟩, .int .i64 0, .int .i64 0, .int .i64 0, .int .i64 0, .int .i64 0, .string ⟨#[]⟩, .string ⟨#[]⟩, .slice none 0 0, .slice none 0 0, .int .i64 0, .string ⟨#[]⟩, .slice none 0 0, .slice none 0 0, .slice none 0 0, .slice none 0 0] 50)) := ⟨_, rfl⟩
 have HW4 : Hid (((((w.alloc (.cells #[.slice A 4 c, .slice B n2 c2, .int .u16 u, .slice D n3 c3, .slice E n4 c4, .slice F 0 c5] 36)).alloc (.cells #[.slice none 0 0, .slice none 0 0] 59)).alloc (.cells #[.int .i64 3, .int .i64 2, .int .i64 1, .int .i64 1, .int .i64 0, .int .i64 1, .int .i64 0] 28)).alloc (.cells #[.int .i64 0, .int .i64 0, .int .i64 0, .int .i64 0, .int .i64 0, .string ⟨#[]⟩, .int .i64 0, .int .i64 0, .int .i64 0, .int .i64 0, .int .i64 0, .string ⟨#[]⟩, .string ⟨#[]⟩, .slice none 0 0, .slice none 0 0, .int .i64 0, .string ⟨#[]⟩, .slice none 0 0, .slice none 0 0, .slice none 0 0, .slice none 0 0] 50)) = w4) := hD hw4.symm
 have HL : Hid (Below w.heap.size w w4) := hD (by rw [hw4]; exact bon (bon (bon (below_new w _) (below_new _ _)) (below_new _ _)) (below_new _ _))
 have HD : Hid (Vz w4 w.heap.size [.slice A 4 c, .slice B n2 c2, .int .u16 u, .slice D n3 c3, .slice E n4 c4, .slice F 0 c5]) := hD (by rw [hw4]; exact (((Vz.new w [.slice A 4 c, .slice B n2 c2, .int .u16 u, .slice D n3 c3, .slice E n4 c4, .slice F 0 c5] 36).below (below_new _ _)).below (below_new _ _)).below (below_new _ _))
 have HS : Hid (Vz w4 (w.heap.size + 1) [.slice none 0 0, .slice none 0 0]) := hD (by
  rw [hw4]
  have h9 := ((Vz.new (w.alloc (.cells #[.slice A 4 c, .slice B n2 c2, .int .u16 u, .slice D n3 c3, .slice E n4 c4, .slice F 0 c5] 36)) [.slice none 0 0, .slice none 0 0] 59).below (below_new _ (.cells #[.int .i64 3, .int .i64 2, .int .i64 1, .int .i64 1, .int .i64 0, .int .i64 1, .int .i64 0] 28))).below (below_new _ (.cells #[.int .i64 0, .int .i64 0, .int .i64 0, .int .i64 0, .int .i64 0, .string ⟨#[]⟩, .int .i64 0, .int .i64 0, .int .i64 0, .int .i64 0, .int .i64 0, .string ⟨#[]⟩, .string ⟨#[]⟩, .slice none 0 0, .slice none 0 0, .int .i64 0, .string ⟨#[]⟩, .slice none 0 0, .slice none 0 0, .slice none 0 0, .slice none 0 0] 50))
  rw [World.size_alloc] at h9
  exact h9)
 have HLi : Hid (Vz w4 (w.heap.size + 2) [.int .i64 3, .int .i64 2, .int .i64 1, .int .i64 1, .int .i64 0, .int .i64 1, .int .i64 0]) := hD (by
  rw [hw4]
  have h9 := (Vz.new ((w.alloc (.cells #[.slice A 4 c, .slice B n2 c2, .int .u16 u, .slice D n3 c3, .slice E n4 c4, .slice F 0 c5] 36)).alloc (.cells #[.slice none 0 0, .slice none 0 0] 59)) [.int .i64 3, .int .i64 2, .int .i64 1, .int .i64 1, .int .i64 0, .int .i64 1, .int .i64 0] 28).below (below_new _ (.cells #[.int .i64 0, .int .i64 0, .int .i64 0, .int .i64 0, .int .i64 0, .string ⟨#[]⟩, .int .i64 0, .int .i64 0, .int .i64 0, .int .i64 0, .int .i64 0, .string ⟨#[]⟩, .string ⟨#[]⟩, .slice none 0 0, .slice none 0 0, .int .i64 0, .string ⟨#[]⟩, .slice none 0 0, .slice none 0 0, .slice none 0 0, .slice none 0 0] 50))
  rw [World.size_alloc, World.size_alloc] at h9
  exact h9)
 have HR : Hid (Vz w4 (w.heap.size + 3) [.int .i64 0, .int .i64 0, .int .i64 0, .int .i64 0, .int .i64 0, .string ⟨#[]⟩, .int .i64 0, .int .i64 0, .int .i64 0, .int .i64 0, .int .i64 0, .string ⟨#[]⟩, .string ⟨#[]⟩, .slice none 0 0, .slice none 0 0, .int .i64 0, .string ⟨#[]⟩, .slice none 0 0, .slice none 0 0, .slice none 0 0, .slice none 0 0]) := hD (by
  rw [hw4]
  have h9 := Vz.new (((w.alloc (.cells #[.slice A 4 c, .slice B n2 c2, .int .u16 u, .slice D n3 c3, .slice E n4 c4, .slice F 0 c5] 36)).alloc (.cells #[.slice none 0 0, .slice none 0 0] 59)).alloc (.cells #[.int .i64 3, .int .i64 2, .int .i64 1, .int .i64 1, .int .i64 0, .int .i64 1, .int .i64 0] 28)) [.int .i64 0, .int .i64 0, .int .i64 0, .int .i64 0, .int .i64 0, .string ⟨#[]⟩, .int .i64 0, .int .i64 0, .int .i64 0, .int .i64 0, .int .i64 0, .string ⟨#[]⟩, .string ⟨#[]⟩, .slice none 0 0, .slice none 0 0, .int .i64 0, .string ⟨#[]⟩, .slice none 0 0, .slice none 0 0, .slice none 0 0, .slice none 0 0] 50
  rw [World.size_alloc, World.size_alloc, World.size_alloc] at h9
  exact h9)
 have HVl : Hid (∀ W, Calls Tryz.prog 9 #[.agg #[.slice A 4 c, .slice B n2 c2, .int .u16 u, .slice D n3 c3, .slice E n4 c4, .slice F 0 c5], .int .u16 15, .agg #[.int .i64 3, .int .i64 2, .int .i64 1, .int .i64 1, .int .i64 0, .int .i64 1, .int .i64 0]] W (RetErr 0 W)) := hD (fun W => validOk_any A B D E F u 4 c n2 c2 n3 c3 n4 c4 0 c5 3 2 1 1 0 1 0 15 W (by decide) (by decide) (by decide) lie_zero)
 have HSg : Hid (∀ W (hx : ByteArray), hx.size = 64 → Calls Tryz.prog 51 #[.int .i64 2, .int .i64 1, .int .i64 1, .int .i64 0, .string hx] W (RetSgx hx W)) := hD (fun W hx h => sign_ex hx W h)
 clear he hw4
 go_enter Tryz.func22, Tryz.ntmps22
 go_upto_region 1 with fail
 refine world_eqA HW4.out ?_
 have d0 := HD.out.cells 0 _ rfl
 go_wp2_with fail
 go_loop [8, 21] (fun s i => (s = .int .u16 0 ∧ i = .int .i64 0) ∨ (s = .int .u16 1 ∧ i = .int .i64 1) ∨ (s = .int .u16 3 ∧ i = .int .i64 2) ∨ (s = .int .u16 7 ∧ i = .int .i64 3) ∨ (s = .int .u16 15 ∧ i = .int .i64 4)) (fun _ i => 4 - (intOf i).toNat)
 case atStart => exact .inl ⟨rfl, rfl⟩
 case round =>
  have b0 : bits .or .u16 0 1 = 1 := by kernel_rfl
  have b1 : bits .or .u16 1 2 = 3 := by kernel_rfl
  have b2 : bits .or .u16 3 4 = 7 := by kernel_rfl
  have b3 : bits .or .u16 7 8 = 15 := by kernel_rfl
  have r1 : IntKind.u16.wrap 1 = 1 := by kernel_rfl
  have r2 : IntKind.u16.wrap 2 = 2 := by kernel_rfl
  have r4 : IntKind.u16.wrap 4 = 4 := by kernel_rfl
  have r8 : IntKind.u16.wrap 8 = 8 := by kernel_rfl
  rcases hrel with ⟨rfl, rfl⟩ | ⟨rfl, rfl⟩ | ⟨rfl, rfl⟩ | ⟨rfl, rfl⟩ | ⟨rfl, rfl⟩
  · go_wp2_with fail
    go_round
    case rel => exact .inr (.inl ⟨by first | rfl | simp, rfl⟩)
    case measure => simp [intOf]
  · go_wp2_with fail
    go_round
    case rel => exact .inr (.inr (.inl ⟨by first | rfl | simp, rfl⟩))
    case measure => simp [intOf]
  · go_wp2_with fail
    go_round
    case rel => exact .inr (.inr (.inr (.inl ⟨by first | rfl | simp, rfl⟩)))
    case measure => simp [intOf]
  · go_wp2_with fail
    go_round
    case rel => exact .inr (.inr (.inr (.inr ⟨by first | rfl | simp, rfl⟩)))
    case measure => simp [intOf]
  · clear b0 b1 b2 b3 r1 r2 r4 r8 d0
    have d0 := HD.out.cells 0 _ rfl
    have d1 := HD.out.cells 1 _ rfl
    have d2 := HD.out.cells 2 _ rfl
    have d3 := HD.out.cells 3 _ rfl
    have d4 := HD.out.cells 4 _ rfl
    have d5 := HD.out.cells 5 _ rfl
    have l0 := HLi.out.cells 0 _ rfl
    have l1 := HLi.out.cells 1 _ rfl
    have l2 := HLi.out.cells 2 _ rfl
    have l3 := HLi.out.cells 3 _ rfl
    have l4 := HLi.out.cells 4 _ rfl
    have l5 := HLi.out.cells 5 _ rfl
    have l6 := HLi.out.cells 6 _ rfl
    have ld := HD.out.lt
    have ll := HLi.out.lt
    go_wp2_with fail
    refine (HVl.out _).mono ?_
    rintro e w5 ⟨rfl, hb⟩
    clear d0 d1 d2 d3 d4 d5 l0 l1 l2 l3 l4 l5 l6 ld ll
    have HD := hD (HD.out.below hb)
    have HS := hD (HS.out.below hb)
    have HLi := hD (HLi.out.below hb)
    have HR := hD (HR.out.below hb)
    have HL := hD (bon HL.out hb)
    clear hb
    have l0 := HLi.out.cells 0 _ rfl
    have l1 := HLi.out.cells 1 _ rfl
    have l2 := HLi.out.cells 2 _ rfl
    have l3 := HLi.out.cells 3 _ rfl
    have l4 := HLi.out.cells 4 _ rfl
    have l5 := HLi.out.cells 5 _ rfl
    have l6 := HLi.out.cells 6 _ rfl
    have ll := HLi.out.lt
    have HZ := hD (Vz.new w5 (msC msZ) 50)
    have HM := hD (HZ.out.sets (msC exM1) rfl)
    have hbz := below_new w5 (.cells (msC msZ).toArray 50)
    have lr := HR.out.lt
    have hge : w.heap.size ≤ w5.heap.size := HL.out.size
    have HLi := hD ((HLi.out.below hbz).grown (grown_setsA _ w5.heap.size (msC exM1) 0) (by simp; omega))
    have HR := hD ((HR.out.below hbz).grown (grown_setsA _ w5.heap.size (msC exM1) 0) (by simp; omega))
    have HS := hD ((HS.out.below hbz).grown (grown_setsA _ w5.heap.size (msC exM1) 0) (by simp; omega))
    have HL := hD (below_grA (bon HL.out hbz) (grown_setsA _ w5.heap.size (msC exM1) 0) hge)
    have HG : Hid (w.heap.size + 4 ≤ w5.heap.size) := hD lr
    clear hbz lr hge
    go_upto_region 11 with (first
     | (refine wpList_buildTo rfl 50 _ rfl _ rfl (msC exM1).toArray ?_ ?_; · kernel_rfl)
     | (refine wpList_store_mid rfl 50 _ _ rfl w5.heap.size 0 (msC exM1).toArray rfl rfl ?_ (infoMsA exM1) (msC_oneA exM1) ?_; · exact HZ.out.there rfl))
    try simp only [List.toList_toArray]
    change Code.wp _ _ _ _ ((w5.alloc (.cells (msC msZ).toArray 50)).setCells w5.heap.size 0 (msC exM1))
    generalize (w5.alloc (.cells (msC msZ).toArray 50)).setCells w5.heap.size 0 (msC exM1) = w6 at HS HLi HR HM HL ⊢
    clear HZ l0 l1 l2 l3 l4 l5 l6 ll
    generalize w5.heap.size = mb at HM HG ⊢
    have l0 := HLi.out.cells 0 _ rfl
    have l1 := HLi.out.cells 1 _ rfl
    have l2 := HLi.out.cells 2 _ rfl
    have l3 := HLi.out.cells 3 _ rfl
    have l4 := HLi.out.cells 4 _ rfl
    have l5 := HLi.out.cells 5 _ rfl
    have l6 := HLi.out.cells 6 _ rfl
    have s0 := HS.out.cells 0 _ rfl
    have s1 := HS.out.cells 1 _ rfl
    have ll := HLi.out.lt
    have ls := HS.out.lt
    go_upto_region 19 with fail
    go_wp2_with fail
    refine (picked_ex 3 2 1 1 0 1 0 _).mono ?_
    rintro e w7 ⟨rfl, hb⟩
    clear l0 l1 l2 l3 l4 l5 l6 s0 s1 ll ls
    have HS := hD (HS.out.below hb)
    have HLi := hD (HLi.out.below hb)
    have HR := hD (HR.out.below hb)
    have HM := hD (HM.out.below hb)
    have HL := hD (bon HL.out hb)
    clear hb
    have HM := hD (HM.out.eq (cs' := [.int .i64 3, .int .i64 2, .int .i64 1, .int .i64 1, .int .i64 0, .string ⟨#[]⟩, .int .i64 0, .int .i64 0, .int .i64 0, .int .i64 0, .int .i64 0, .string ⟨#[]⟩, .string ⟨#[]⟩, .slice none 0 0, .slice none 0 0, .int .i64 0, .string ⟨#[]⟩, .slice none 0 0, .slice none 0 0, .slice none 0 0, .slice none 0 0]) rfl)
    have l0 := HLi.out.cells 0 _ rfl
    have l1 := HLi.out.cells 1 _ rfl
    have l2 := HLi.out.cells 2 _ rfl
    have l3 := HLi.out.cells 3 _ rfl
    have l4 := HLi.out.cells 4 _ rfl
    have l5 := HLi.out.cells 5 _ rfl
    have l6 := HLi.out.cells 6 _ rfl
    have s0 := HS.out.cells 0 _ rfl
    have s1 := HS.out.cells 1 _ rfl
    have m13 := HM.out.cells 13 _ rfl
    have fm13 := HM.out.free 13 (by simp)
    have ll := HLi.out.lt
    have ls := HS.out.lt
    have lm := HM.out.lt
    go_upto_region 25 with fail
    have hne2 : some mb ≠ some (w.heap.size + 2) := by have := HG.out; simp; omega
    have hne3 : some mb ≠ some (w.heap.size + 3) := by have := HG.out; simp; omega
    have hne1 : some mb ≠ some (w.heap.size + 1) := by have := HG.out; simp; omega
    have hge : w.heap.size ≤ mb := by have := HG.out; omega
    have hM := (HM.out.set 13 (.slice none 0 0)).eq (cs' := [.int .i64 3, .int .i64 2, .int .i64 1, .int .i64 1, .int .i64 0, .string ⟨#[]⟩, .int .i64 0, .int .i64 0, .int .i64 0, .int .i64 0, .int .i64 0, .string ⟨#[]⟩, .string ⟨#[]⟩, .slice none 0 0, .slice none 0 0, .int .i64 0, .string ⟨#[]⟩, .slice none 0 0, .slice none 0 0, .slice none 0 0, .slice none 0 0]) rfl
    have hS := HS.out.grown (grown_set _ ⟨mb, 13, none⟩ (.slice none 0 0)) hne1
    have hLi := HLi.out.grown (grown_set _ ⟨mb, 13, none⟩ (.slice none 0 0)) hne2
    have hR := HR.out.grown (grown_set _ ⟨mb, 13, none⟩ (.slice none 0 0)) hne3
    have hL := HL.out.setCell (p := ⟨mb, 13, none⟩) hge (.slice none 0 0)
    have HM := hD hM
    have HS := hD hS
    have HLi := hD hLi
    have HR := hD hR
    have HL := hD hL
    clear hM hS hLi hR hL
    generalize w7.setCell ⟨mb, 13, none⟩ (.slice none 0 0) = w8 at HM HS HLi HR HL ⊢
    clear l0 l1 l2 l3 l4 l5 l6 s0 s1 ll ls m13 fm13 lm
    have l0 := HLi.out.cells 0 _ rfl
    have l1 := HLi.out.cells 1 _ rfl
    have l2 := HLi.out.cells 2 _ rfl
    have l3 := HLi.out.cells 3 _ rfl
    have l4 := HLi.out.cells 4 _ rfl
    have l5 := HLi.out.cells 5 _ rfl
    have l6 := HLi.out.cells 6 _ rfl
    have s0 := HS.out.cells 0 _ rfl
    have s1 := HS.out.cells 1 _ rfl
    have ll := HLi.out.lt
    have ls := HS.out.lt
    go_wp2_with fail
    refine (value_ex _ (HE.out.below HL.out)).mono ?_
    rintro e w9 ⟨⟨s, hs9, rfl⟩, hb⟩
    have HSl := hD hs9
    clear l0 l1 l2 l3 l4 l5 l6 s0 s1 ll ls hs9
    have HLi := hD (HLi.out.below hb)
    have HR := hD (HR.out.below hb)
    have HM := hD (HM.out.below hb)
    have HL := hD (bon HL.out hb)
    clear hb
    have HHex : Hid (∀ W, Calls Tryz.prog 52 #[.string ⟨s.toArray⟩] W (RetTxt 64 W)) := hD (fun W => hex_any ⟨s.toArray⟩ W (by rw [size_mk]; have := HSl.out; omega))
    have hne2 : some mb ≠ some (w.heap.size + 2) := by have := HG.out; simp; omega
    have hne3 : some mb ≠ some (w.heap.size + 3) := by have := HG.out; simp; omega
    have hge : w.heap.size ≤ mb := by have := HG.out; omega
    go_upto_region 28 with fail
    have HLi : Hid (Vz w9.drew (w.heap.size + 2) [.int .i64 3, .int .i64 2, .int .i64 1, .int .i64 1, .int .i64 0, .int .i64 1, .int .i64 0]) := hD (HLi.out.below (Below.refl _ _).drew)
    have HR : Hid (Vz w9.drew (w.heap.size + 3) [.int .i64 0, .int .i64 0, .int .i64 0, .int .i64 0, .int .i64 0, .string ⟨#[]⟩, .int .i64 0, .int .i64 0, .int .i64 0, .int .i64 0, .int .i64 0, .string ⟨#[]⟩, .string ⟨#[]⟩, .slice none 0 0, .slice none 0 0, .int .i64 0, .string ⟨#[]⟩, .slice none 0 0, .slice none 0 0, .slice none 0 0, .slice none 0 0]) := hD (HR.out.below (Below.refl _ _).drew)
    have HM : Hid (Vz w9.drew mb [.int .i64 3, .int .i64 2, .int .i64 1, .int .i64 1, .int .i64 0, .string ⟨#[]⟩, .int .i64 0, .int .i64 0, .int .i64 0, .int .i64 0, .int .i64 0, .string ⟨#[]⟩, .string ⟨#[]⟩, .slice none 0 0, .slice none 0 0, .int .i64 0, .string ⟨#[]⟩, .slice none 0 0, .slice none 0 0, .slice none 0 0, .slice none 0 0]) := hD (HM.out.below (Below.refl _ _).drew)
    have HL : Hid (Below w.heap.size w w9.drew) := hD (bon HL.out (Below.refl _ _).drew)
    generalize hv : w9.drew = v0 at HLi HR HM HL
    have hS0 : World.cell? v0 ⟨w.heap.size + 2, 1, none⟩ = some (.int .i64 2) ∧ World.cell? v0 ⟨w.heap.size + 2, 3, none⟩ = some (.int .i64 1) ∧ World.cell? v0 ⟨w.heap.size + 2, 4, none⟩ = some (.int .i64 0) := ⟨HLi.out.cells 1 _ rfl, HLi.out.cells 3 _ rfl, HLi.out.cells 4 _ rfl⟩
    refine wp_region_held_drew (S := fun W => World.cell? W ⟨w.heap.size + 2, 1, none⟩ = some (.int .i64 2) ∧ World.cell? W ⟨w.heap.size + 2, 3, none⟩ = some (.int .i64 1) ∧ World.cell? W ⟨w.heap.size + 2, 4, none⟩ = some (.int .i64 0)) (by kernel_rfl) (by rw [hv]; exact hS0) (fun hHeld => ?_)
    rw [hv] at hHeld ⊢
    clear hv
    refine takes [0,1,2,3,4,5,6,7] ?_
    refine tkr 8 rfl (fun K hK => ?_)
    go_simp
    go_at_call 52
    refine (HHex.out _).mono ?_
    rintro e v1 ⟨⟨hx, hhx, rfl⟩, hs⟩
    have HLi := hD (HLi.out.below hs)
    have HR := hD (HR.out.below hs)
    have HM := hD (HM.out.below hs)
    have HL := hD (bon HL.out hs)
    clear hs
    go_wp2_with fail
    have hS1 : World.cell? v1 ⟨w.heap.size + 2, 1, none⟩ = some (.int .i64 2) ∧ World.cell? v1 ⟨w.heap.size + 2, 3, none⟩ = some (.int .i64 1) ∧ World.cell? v1 ⟨w.heap.size + 2, 4, none⟩ = some (.int .i64 0) := ⟨HLi.out.cells 1 _ rfl, HLi.out.cells 3 _ rfl, HLi.out.cells 4 _ rfl⟩
    refine hK.out _ _ hS1 (fun hHeld => ?_)
    clear hK K
    try simp only [Act.put,qk1,qk2,qk3,qk4,qk5,qk6]
    refine tkr 9 rfl (fun K hK => ?_)
    go_simp
    go_at_call 51
    refine (HSg.out _ hx hhx).mono ?_
    rintro e v2 ⟨⟨tx, htx, rfl⟩, hs⟩
    have HLi := hD (HLi.out.below hs)
    have HR := hD (HR.out.below hs)
    have HM := hD (HM.out.below hs)
    have HL := hD (bon HL.out hs)
    have HHx := hD hhx
    have HTx := hD htx
    clear hs hhx htx
    go_wp2_with fail
    have hS2 : World.cell? v2 ⟨w.heap.size + 2, 1, none⟩ = some (.int .i64 2) ∧ World.cell? v2 ⟨w.heap.size + 2, 3, none⟩ = some (.int .i64 1) ∧ World.cell? v2 ⟨w.heap.size + 2, 4, none⟩ = some (.int .i64 0) := ⟨HLi.out.cells 1 _ rfl, HLi.out.cells 3 _ rfl, HLi.out.cells 4 _ rfl⟩
    refine hK.out _ _ hS2 (fun hHeld => ?_)
    clear hK K
    try simp only [Act.put,qk1,qk2,qk3,qk4,qk5,qk6]
    refine takes [10,11,12,13] ?_
    have z7 := HM.out.cells 7 _ rfl
    have f7 := HM.out.free 7 (by simp)
    have z8 := HM.out.cells 8 _ rfl
    have f8 := HM.out.free 8 (by simp)
    have z9 := HM.out.cells 9 _ rfl
    have f9 := HM.out.free 9 (by simp)
    have z10 := HM.out.cells 10 _ rfl
    have f10 := HM.out.free 10 (by simp)
    have z11 := HM.out.cells 11 _ rfl
    have f11 := HM.out.free 11 (by simp)
    have z12 := HM.out.cells 12 _ rfl
    have f12 := HM.out.free 12 (by simp)
    have lm := HM.out.lt
    refine tkr 14 rfl (fun K hK => ?_)
    go_simp
    have hLi := ((((((HLi.out.grown (grown_set _ ⟨mb, 7, none⟩ (.int .i64 2)) hne2).grown (grown_set _ ⟨mb, 8, none⟩ (.int .i64 1)) hne2).grown (grown_set _ ⟨mb, 9, none⟩ (.int .i64 1)) hne2).grown (grown_set _ ⟨mb, 10, none⟩ (.int .i64 0)) hne2).grown (grown_set _ ⟨mb, 11, none⟩ (.string hx)) hne2).grown (grown_set _ ⟨mb, 12, none⟩ (.string tx)) hne2)
    have hR := ((((((HR.out.grown (grown_set _ ⟨mb, 7, none⟩ (.int .i64 2)) hne3).grown (grown_set _ ⟨mb, 8, none⟩ (.int .i64 1)) hne3).grown (grown_set _ ⟨mb, 9, none⟩ (.int .i64 1)) hne3).grown (grown_set _ ⟨mb, 10, none⟩ (.int .i64 0)) hne3).grown (grown_set _ ⟨mb, 11, none⟩ (.string hx)) hne3).grown (grown_set _ ⟨mb, 12, none⟩ (.string tx)) hne3)
    have hM := (((((((HM.out.set 7 (.int .i64 2)).set 8 (.int .i64 1)).set 9 (.int .i64 1)).set 10 (.int .i64 0)).set 11 (.string hx)).set 12 (.string tx))).eq (cs' := [.int .i64 3, .int .i64 2, .int .i64 1, .int .i64 1, .int .i64 0, .string ⟨#[]⟩, .int .i64 0, .int .i64 2, .int .i64 1, .int .i64 1, .int .i64 0, .string hx, .string tx, .slice none 0 0, .slice none 0 0, .int .i64 0, .string ⟨#[]⟩, .slice none 0 0, .slice none 0 0, .slice none 0 0, .slice none 0 0]) rfl
    have hL := ((((((HL.out.setCell (p := ⟨mb, 7, none⟩) hge (.int .i64 2)).setCell (p := ⟨mb, 8, none⟩) hge (.int .i64 1)).setCell (p := ⟨mb, 9, none⟩) hge (.int .i64 1)).setCell (p := ⟨mb, 10, none⟩) hge (.int .i64 0)).setCell (p := ⟨mb, 11, none⟩) hge (.string hx)).setCell (p := ⟨mb, 12, none⟩) hge (.string tx))
    clear z7 f7 z8 f8 z9 f9 z10 f10 z11 f11 z12 f12 lm
    have HLi := hD hLi
    have HR := hD hR
    have HM := hD hM
    have HL := hD hL
    clear hLi hR hM hL
    generalize (World.setCell (World.setCell (World.setCell (World.setCell (World.setCell (World.setCell v2 ⟨mb, 7, none⟩ (.int .i64 2)) ⟨mb, 8, none⟩ (.int .i64 1)) ⟨mb, 9, none⟩ (.int .i64 1)) ⟨mb, 10, none⟩ (.int .i64 0)) ⟨mb, 11, none⟩ (.string hx)) ⟨mb, 12, none⟩ (.string tx)) = v3 at HLi HR HM HL ⊢
    have hS3 : World.cell? v3 ⟨w.heap.size + 2, 1, none⟩ = some (.int .i64 2) ∧ World.cell? v3 ⟨w.heap.size + 2, 3, none⟩ = some (.int .i64 1) ∧ World.cell? v3 ⟨w.heap.size + 2, 4, none⟩ = some (.int .i64 0) := ⟨HLi.out.cells 1 _ rfl, HLi.out.cells 3 _ rfl, HLi.out.cells 4 _ rfl⟩
    refine hK.out _ _ hS3 (fun hHeld => ?_)
    clear hK K
    try simp only [Act.put,qk1,qk2,qk3,qk4,qk5,qk6]
    refine wpAnyH_done (by kernel_rfl) ?_ _
    have l0 := HLi.out.cells 0 _ rfl
    have m5 := HM.out.cells 5 _ rfl
    have fm5 := HM.out.free 5 (by simp)
    have ll := HLi.out.lt
    have lm := HM.out.lt
    go_upto_region 31 with fail
    have HM := hD ((HM.out.set 5 (.string ⟨s.toArray⟩)).eq (cs' := msC (exMg s hx.data.toList tx.data.toList)) (by simp only [msC, exMg, str_mk]; rfl))
    have HR := hD (HR.out.grown (grown_set _ ⟨mb, 5, none⟩ (.string ⟨s.toArray⟩)) hne3)
    have HL := hD (HL.out.setCell (p := ⟨mb, 5, none⟩) hge (.string ⟨s.toArray⟩))
    generalize v3.setCell ⟨mb, 5, none⟩ (.string ⟨s.toArray⟩) = v4 at HM HR HL ⊢
    clear l0 ll m5 fm5 lm HLi
    obtain ⟨x, hx9⟩ : ∃ x, x = exMg s hx.data.toList tx.data.toList := ⟨_, rfl⟩
    have HVm : Hid (∀ W, Calls Tryz.prog 53 #[.agg (msC x).toArray] W (RetErr 0 W)) := hD (fun W => hx9 ▸ exMg_call s _ _ W HSl.out (by rw [len_data]; exact HHx.out) (by rw [len_data]; exact HTx.out))
    have HX9 := hD hx9
    rw [← hx9] at HM
    clear hx9
    go_wp2_with (refine wpList_load_mid rfl 50 _ rfl mb 0 rfl (msC x) _ HM.out.range Tryz.underlying50 rfl (infoMs x) ?_)
    refine (HVm.out _).mono ?_
    rintro e v5 ⟨rfl, hb⟩
    have HR := hD (HR.out.below hb)
    have HM := hD (HM.out.below hb)
    have HL := hD (bon HL.out hb)
    clear hb
    have HR5 := hD (HR.out.sets (msC x) rfl)
    have HL5 := hD (below_grA HL.out (grown_setsA v5 (w.heap.size + 3) (msC x) 0) (by omega))
    go_wp2_with (first
     | (refine wpList_load_mid rfl 50 _ rfl mb 0 rfl (msC x) _ HM.out.range Tryz.underlying50 rfl (infoMs x) ?_)
     | (refine wpList_store_mid rfl 50 _ _ rfl (w.heap.size + 3) 0 (msC x).toArray rfl rfl ?_ (infoMsA x) (msC_oneA x) ?_; · exact HR.out.there rfl))
    refine bodyPost_ret (v := .tuple #[.agg (msC x).toArray, .int .i64 0]) ?_ rfl ⟨⟨s, hx.data.toList, tx.data.toList, by rw [HX9.out]⟩, HL5.out⟩
    exact results_mid_slotA Tryz.results22 _ _ (w.heap.size + 3) (msC x) _ _ rfl rfl HR5.out.range Tryz.underlying50 rfl (infoMs x)
end Go.Proofs.YtikpcebhcnjkhaaGreatDoor
