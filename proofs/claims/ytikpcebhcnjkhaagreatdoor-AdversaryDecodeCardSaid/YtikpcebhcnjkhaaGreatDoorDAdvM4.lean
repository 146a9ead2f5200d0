/- A deployment of a draft of 4 servers. -/
import Derived.Deep.Cut
import Derived.Deep.CutRange
import Derived.Test.YtikpcebhcnjkhaaGreatDoorDPl
import Derived.Test.YtikpcebhcnjkhaaGreatDoorDA3
namespace Go.Proofs.YtikpcebhcnjkhaaGreatDoor
open Go.RowKit
set_option maxRecDepth 100000 in
set_option maxHeartbeats 20000000 in
theorem setup4_any (N Wt C : Nat) (x : Sl Dr) (w : World) (hN : N < 256) (hn : N % 3 = 1) (hW : Wt < 256) (hC : C < 256) (hx : Rd w 6 x.a x.l.length (x.l.flatMap drC)) (hok : ∀ d ∈ x.l, d.ok w) : Calls Tryz.prog 8 #[.agg #[.int .u8 (N : Int), .int .u8 (Wt : Int), .int .u8 (C : Int), .slice x.a x.l.length x.c]] w (RetDep 4 (C % 3) w) := by
 have HXs := hD hx
 have HOk := hD hok
 have N0 : (0 : Int) ≤ (N : Int) := by omega
 have N1 : (N : Int) < 256 := by omega
 have N2 : (N : Int) % 3 = 1 := by omega
 have W0 : (0 : Int) ≤ (Wt : Int) := by omega
 have W1 : (Wt : Int) < 256 := by omega
 have C0 : (0 : Int) ≤ (C : Int) := by omega
 have C1 : (C : Int) < 256 := by omega
 have H0 : Hid (Pre w [.int .u8 (N : Int), .int .u8 (Wt : Int), .int .u8 (C : Int), .slice x.a x.l.length x.c] (((w.alloc (.cells #[.int .u8 (N : Int), .int .u8 (Wt : Int), .int .u8 (C : Int), .slice x.a x.l.length x.c] 24)).alloc (.cells #[.slice none 0 0, .slice none 0 0, .int .u16 0, .slice none 0 0, .slice none 0 0, .slice none 0 0] 36)).alloc (.cells #[.string ⟨#[115, 48]⟩, .string ⟨#[115, 49]⟩, .string ⟨#[115, 50]⟩, .string ⟨#[115, 51]⟩, .string ⟨#[115, 52]⟩] 9))) := hD ((Pre.new w [.int .u8 (N : Int), .int .u8 (Wt : Int), .int .u8 (C : Int), .slice x.a x.l.length x.c] 24).below (below_new _ _))
 clear hx hok hn
 go_enter Tryz.func8, Tryz.ntmps8
 go_upto_region 3 with fail
 clear N2
 go_cut [5] from 15 to 23 (fun t wx => ∃ (g : Nat) (qb : Nat), t = .pointer (some ⟨g, 0, none⟩) ∧ Dep w [.int .u8 (N : Int), .int .u8 (Wt : Int), .int .u8 (C : Int), .slice x.a x.l.length x.c] g (.slice (some ⟨w.heap.size + 1 + 1, 0, none⟩) 4 5) (.slice (some ⟨qb, 0, none⟩) 1 1) 0 0 0 0 (.slice none 0 0) (.slice none 0 0) (.slice none 0 0) wx)
 case first =>
  refine wp_region_noPanic ?_
  have HX : Hid (Pre w [.int .u8 (N : Int), .int .u8 (Wt : Int), .int .u8 (C : Int), .slice x.a x.l.length x.c] (((w.alloc (.cells #[.int .u8 (N : Int), .int .u8 (Wt : Int), .int .u8 (C : Int), .slice x.a x.l.length x.c] 24)).alloc (.cells #[.slice none 0 0, .slice none 0 0, .int .u16 0, .slice none 0 0, .slice none 0 0, .slice none 0 0] 36)).alloc (.cells #[.string ⟨#[115, 48]⟩, .string ⟨#[115, 49]⟩, .string ⟨#[115, 50]⟩, .string ⟨#[115, 51]⟩, .string ⟨#[115, 52]⟩] 9)).drew) := hD (H0.out.below (Below.refl _ _).drew)
  generalize hv : (((w.alloc (.cells #[.int .u8 (N : Int), .int .u8 (Wt : Int), .int .u8 (C : Int), .slice x.a x.l.length x.c] 24)).alloc (.cells #[.slice none 0 0, .slice none 0 0, .int .u16 0, .slice none 0 0, .slice none 0 0, .slice none 0 0] 36)).alloc (.cells #[.string ⟨#[115, 48]⟩, .string ⟨#[115, 49]⟩, .string ⟨#[115, 50]⟩, .string ⟨#[115, 51]⟩, .string ⟨#[115, 52]⟩] 9)).drew = v0 at HX
  have hS0 : Below w.heap.size w v0 := HX.out.low
  refine wp_region_held_drew (S := fun W => Below w.heap.size w W) (by kernel_rfl) (by rw [hv]; exact hS0) (fun hHeld => ?_)
  rw [hv] at hHeld ⊢
  clear hv
  refine takes [0,1,2,3,4,5,6] ?_
  generalize IntKind.u16.wrap (IntKind.u16.wrap 16 - 1) = MM
  refine wpAnyH_ready (rs := [7, 9]) (by kernel_rfl) (by simp) ?_
  refine AllReadyH.cons (o := _) rfl (fun K hK => ?_) (AllReadyH.cons (o := _) rfl (fun K hK => ?_) AllReadyH.nil)
  · go_simp
    have HX := hD (HX.out.below (below_new v0 (.cells #[.string ⟨#[104, 111, 109, 101]⟩, .int .u16 MM] 70)))
    generalize World.alloc v0 (.cells #[.string ⟨#[104, 111, 109, 101]⟩, .int .u16 MM] 70) = v1 at HX ⊢
    generalize (World.heap v0).size = qb
    refine hK.out _ _ HX.out.low (fun hHeld => ?_)
    clear hK K
    try simp only [Act.put,qk1,qk2,qk3,qk4,qk5,qk6]
    refine takes [8] ?_
    refine tkr 9 rfl (fun K hK => ?_)
    go_simp
    have HGw : Hid (w.heap.size + 1 < (World.heap v1).size) := hD HX.out.lt
    have HG : Hid (Vz (World.alloc v1 (.cells #[.slice none 0 0, .slice none 0 0, .int .u16 0, .slice none 0 0, .slice none 0 0, .slice none 0 0] 36)) (World.heap v1).size [.slice none 0 0, .slice none 0 0, .int .u16 0, .slice none 0 0, .slice none 0 0, .slice none 0 0]) := hD (Vz.new v1 [.slice none 0 0, .slice none 0 0, .int .u16 0, .slice none 0 0, .slice none 0 0, .slice none 0 0] 36)
    have HX := hD (HX.out.below (below_new v1 (.cells #[.slice none 0 0, .slice none 0 0, .int .u16 0, .slice none 0 0, .slice none 0 0, .slice none 0 0] 36)))
    generalize World.alloc v1 (.cells #[.slice none 0 0, .slice none 0 0, .int .u16 0, .slice none 0 0, .slice none 0 0, .slice none 0 0] 36) = v2 at HG HX ⊢
    generalize (World.heap v1).size = g at HG HGw ⊢
    refine hK.out _ _ HX.out.low (fun hHeld => ?_)
    clear hK K
    try simp only [Act.put,qk1,qk2,qk3,qk4,qk5,qk6]
    have z0 := HG.out.cells 0 _ rfl
    have z1 := HG.out.cells 1 _ rfl
    have z2 := HG.out.cells 2 _ rfl
    have z3 := HG.out.cells 3 _ rfl
    have z4 := HG.out.cells 4 _ rfl
    have z5 := HG.out.cells 5 _ rfl
    have f0 := HG.out.free 0 (by decide)
    have f1 := HG.out.free 1 (by decide)
    have f2 := HG.out.free 2 (by decide)
    have f3 := HG.out.free 3 (by decide)
    have f4 := HG.out.free 4 (by decide)
    have f5 := HG.out.free 5 (by decide)
    have lg := HG.out.lt
    refine tkr 10 rfl (fun K hK => ?_)
    go_simp
    have HX := hD ((((((HX.out.set HGw.out 0 (.slice (some ⟨w.heap.size + 1 + 1, 0, none⟩) 4 5)).set HGw.out 1 (.slice (some ⟨qb, 0, none⟩) 1 1)).set HGw.out 2 (.int .u16 0)).set HGw.out 3 (.slice none 0 0)).set HGw.out 4 (.slice none 0 0)).set HGw.out 5 (.slice none 0 0))
    have HG : Hid (Vz (World.setCell (World.setCell (World.setCell (World.setCell (World.setCell (World.setCell v2 ⟨g, 0, none⟩ (.slice (some ⟨w.heap.size + 1 + 1, 0, none⟩) 4 5)) ⟨g, 1, none⟩ (.slice (some ⟨qb, 0, none⟩) 1 1)) ⟨g, 2, none⟩ (.int .u16 0)) ⟨g, 3, none⟩ (.slice none 0 0)) ⟨g, 4, none⟩ (.slice none 0 0)) ⟨g, 5, none⟩ (.slice none 0 0)) g [.slice (some ⟨w.heap.size + 1 + 1, 0, none⟩) 4 5, .slice (some ⟨qb, 0, none⟩) 1 1, .int .u16 0, .slice none 0 0, .slice none 0 0, .slice none 0 0]) := hD (((((((HG.out.set 0 (.slice (some ⟨w.heap.size + 1 + 1, 0, none⟩) 4 5)).set 1 (.slice (some ⟨qb, 0, none⟩) 1 1)).set 2 (.int .u16 0)).set 3 (.slice none 0 0)).set 4 (.slice none 0 0)).set 5 (.slice none 0 0)).eq rfl)
    clear z0 z1 z2 z3 z4 z5 f0 f1 f2 f3 f4 f5 lg
    generalize (World.setCell (World.setCell (World.setCell (World.setCell (World.setCell (World.setCell v2 ⟨g, 0, none⟩ (.slice (some ⟨w.heap.size + 1 + 1, 0, none⟩) 4 5)) ⟨g, 1, none⟩ (.slice (some ⟨qb, 0, none⟩) 1 1)) ⟨g, 2, none⟩ (.int .u16 0)) ⟨g, 3, none⟩ (.slice none 0 0)) ⟨g, 4, none⟩ (.slice none 0 0)) ⟨g, 5, none⟩ (.slice none 0 0)) = v3 at HX HG ⊢
    refine hK.out _ _ HX.out.low (fun hHeld => ?_)
    clear hK K
    try simp only [Act.put,qk1,qk2,qk3,qk4,qk5,qk6]
    refine wpAnyH_done (by kernel_rfl) ?_ _
    refine NoPanic.normal ?_
    have HD := hD (HX.out.dep HGw.out HG.out)
    clear HX HG hHeld
    go_wp2_with fail
    go_meet
    case rel => exact ⟨g, qb, rfl, HD.out⟩
  · go_simp
    have HGw : Hid (w.heap.size + 1 < (World.heap v0).size) := hD HX.out.lt
    have HG : Hid (Vz (World.alloc v0 (.cells #[.slice none 0 0, .slice none 0 0, .int .u16 0, .slice none 0 0, .slice none 0 0, .slice none 0 0] 36)) (World.heap v0).size [.slice none 0 0, .slice none 0 0, .int .u16 0, .slice none 0 0, .slice none 0 0, .slice none 0 0]) := hD (Vz.new v0 [.slice none 0 0, .slice none 0 0, .int .u16 0, .slice none 0 0, .slice none 0 0, .slice none 0 0] 36)
    have HX := hD (HX.out.below (below_new v0 (.cells #[.slice none 0 0, .slice none 0 0, .int .u16 0, .slice none 0 0, .slice none 0 0, .slice none 0 0] 36)))
    generalize World.alloc v0 (.cells #[.slice none 0 0, .slice none 0 0, .int .u16 0, .slice none 0 0, .slice none 0 0, .slice none 0 0] 36) = v1 at HG HX ⊢
    generalize (World.heap v0).size = g at HG HGw ⊢
    refine hK.out _ _ HX.out.low (fun hHeld => ?_)
    clear hK K
    try simp only [Act.put,qk1,qk2,qk3,qk4,qk5,qk6]
    refine tkr 7 rfl (fun K hK => ?_)
    go_simp
    have HX := hD (HX.out.below (below_new v1 (.cells #[.string ⟨#[104, 111, 109, 101]⟩, .int .u16 MM] 70)))
    have HG := hD (HG.out.below (below_new v1 (.cells #[.string ⟨#[104, 111, 109, 101]⟩, .int .u16 MM] 70)))
    generalize World.alloc v1 (.cells #[.string ⟨#[104, 111, 109, 101]⟩, .int .u16 MM] 70) = v2 at HG HX ⊢
    generalize (World.heap v1).size = qb
    refine hK.out _ _ HX.out.low (fun hHeld => ?_)
    clear hK K
    try simp only [Act.put,qk1,qk2,qk3,qk4,qk5,qk6]
    refine takes [8] ?_
    have z0 := HG.out.cells 0 _ rfl
    have z1 := HG.out.cells 1 _ rfl
    have z2 := HG.out.cells 2 _ rfl
    have z3 := HG.out.cells 3 _ rfl
    have z4 := HG.out.cells 4 _ rfl
    have z5 := HG.out.cells 5 _ rfl
    have f0 := HG.out.free 0 (by decide)
    have f1 := HG.out.free 1 (by decide)
    have f2 := HG.out.free 2 (by decide)
    have f3 := HG.out.free 3 (by decide)
    have f4 := HG.out.free 4 (by decide)
    have f5 := HG.out.free 5 (by decide)
    have lg := HG.out.lt
    refine tkr 10 rfl (fun K hK => ?_)
    go_simp
    have HX := hD ((((((HX.out.set HGw.out 0 (.slice (some ⟨w.heap.size + 1 + 1, 0, none⟩) 4 5)).set HGw.out 1 (.slice (some ⟨qb, 0, none⟩) 1 1)).set HGw.out 2 (.int .u16 0)).set HGw.out 3 (.slice none 0 0)).set HGw.out 4 (.slice none 0 0)).set HGw.out 5 (.slice none 0 0))
    have HG : Hid (Vz (World.setCell (World.setCell (World.setCell (World.setCell (World.setCell (World.setCell v2 ⟨g, 0, none⟩ (.slice (some ⟨w.heap.size + 1 + 1, 0, none⟩) 4 5)) ⟨g, 1, none⟩ (.slice (some ⟨qb, 0, none⟩) 1 1)) ⟨g, 2, none⟩ (.int .u16 0)) ⟨g, 3, none⟩ (.slice none 0 0)) ⟨g, 4, none⟩ (.slice none 0 0)) ⟨g, 5, none⟩ (.slice none 0 0)) g [.slice (some ⟨w.heap.size + 1 + 1, 0, none⟩) 4 5, .slice (some ⟨qb, 0, none⟩) 1 1, .int .u16 0, .slice none 0 0, .slice none 0 0, .slice none 0 0]) := hD (((((((HG.out.set 0 (.slice (some ⟨w.heap.size + 1 + 1, 0, none⟩) 4 5)).set 1 (.slice (some ⟨qb, 0, none⟩) 1 1)).set 2 (.int .u16 0)).set 3 (.slice none 0 0)).set 4 (.slice none 0 0)).set 5 (.slice none 0 0)).eq rfl)
    clear z0 z1 z2 z3 z4 z5 f0 f1 f2 f3 f4 f5 lg
    generalize (World.setCell (World.setCell (World.setCell (World.setCell (World.setCell (World.setCell v2 ⟨g, 0, none⟩ (.slice (some ⟨w.heap.size + 1 + 1, 0, none⟩) 4 5)) ⟨g, 1, none⟩ (.slice (some ⟨qb, 0, none⟩) 1 1)) ⟨g, 2, none⟩ (.int .u16 0)) ⟨g, 3, none⟩ (.slice none 0 0)) ⟨g, 4, none⟩ (.slice none 0 0)) ⟨g, 5, none⟩ (.slice none 0 0)) = v3 at HX HG ⊢
    refine hK.out _ _ HX.out.low (fun hHeld => ?_)
    clear hK K
    try simp only [Act.put,qk1,qk2,qk3,qk4,qk5,qk6]
    refine wpAnyH_done (by kernel_rfl) ?_ _
    refine NoPanic.normal ?_
    have HD := hD (HX.out.dep HGw.out HG.out)
    clear HX HG hHeld
    go_wp2_with fail
    go_meet
    case rel => exact ⟨g, qb, rfl, HD.out⟩
 case rest =>
  obtain ⟨g, qb, rfl, hd⟩ := hcut
  rename World => v0
  have HD := hD hd
  clear hd H0
  have b1 := HD.out.box 1 _ rfl
  have lb : w.heap.size < (World.heap v0).size := by have := HD.out.lt; have := HD.out.dv.lt; omega
  go_upto_if 28 with fail
  go_cut [] from 29 to 32 (fun wx => ∃ (u : Int), Dep w [.int .u8 (N : Int), .int .u8 (Wt : Int), .int .u8 (C : Int), .slice x.a x.l.length x.c] g (.slice (some ⟨w.heap.size + 1 + 1, 0, none⟩) 4 5) (.slice (some ⟨qb, 0, none⟩) 1 1) u 0 0 0 (.slice none 0 0) (.slice none 0 0) (.slice none 0 0) wx)
  case first =>
   have fz := HD.out.dv.free 2 (by simp)
   have cz := HD.out.dv.cells 2 _ rfl
   have lz := HD.out.dv.lt
   by_cases hwt : Wt < 4
   · have q1 : decide ((Wt : Int) < 4) = true := by simp; omega
     have q3 : decide (Wt < 4) = true := by simpa using hwt
     have q2 : (Wt : Int) ≤ 16 := by omega
     go_wp2_with fail
     go_meet
     case rel => exact ⟨_, HD.out.wit _⟩
   · have q1 : decide ((Wt : Int) < 4) = false := by simp; omega
     have q3 : decide (Wt < 4) = false := by simpa using hwt
     go_wp2_with fail
     go_meet
     case rel => exact ⟨_, HD.out⟩
  case rest =>
   obtain ⟨u, hd⟩ := hcut
   rename World => v1
   have HD := hD hd
   clear hd b1 lb
   go_wp2_with fail
   go_loopw [6] (fun i wr => ∃ (j : Nat) (q1 q2 : Value), i = .int .i64 j ∧ j ≤ 2 ∧ Dep w [.int .u8 (N : Int), .int .u8 (Wt : Int), .int .u8 (C : Int), .slice x.a x.l.length x.c] g (.slice (some ⟨w.heap.size + 1 + 1, 0, none⟩) 4 5) (.slice (some ⟨qb, 0, none⟩) 1 1) u j j 0 q1 q2 (.slice none 0 0) wr) (fun i _ => 2 - (intOf i).toNat)
   case atStart => exact ⟨0, _, _, rfl, by omega, HD.out⟩
   case round =>
    obtain ⟨j, q1, q2, rfl, hj, hd⟩ := hrel
    have HD := hD hd
    clear hd
    have i0' : (0 : Int) ≤ (j : Int) := by omega
    have b3 := HD.out.box 3 _ rfl
    have lb : w.heap.size < (World.heap wr).size := by have := HD.out.lt; have := HD.out.dv.lt; omega
    go_upto_region 7 with fail
    go_cut [45] from 33 to 45 (fun t wx => t = .bool (goB j x.l.length) ∧ wr = wx)
    case first =>
     by_cases h1 : j < x.l.length
     · have g1 : decide (j < x.l.length) = true := by simpa using h1
       by_cases h2 : j < 2
       · have HG : Hid (goB j x.l.length = true) := hD (by simp [goB, h1, h2])
         have g2 : decide (j < 2) = true := by simpa using h2
         have g3 : (j : Int) < 2 := by omega
         go_wp2_with fail
         go_meet
         case rel => exact ⟨by rw [HG.out], rfl⟩
       · obtain rfl : j = 2 := by omega
         have HG : Hid (goB 2 x.l.length = false) := hD (by simp [goB])
         go_wp2_with fail
         go_meet
         case rel => exact ⟨by rw [HG.out], rfl⟩
     · have g1 : decide (j < x.l.length) = false := by simpa using h1
       by_cases h2 : j = 0
       · have HG : Hid (goB j x.l.length = true) := hD (by simp [goB, h2])
         have g2 : ((j : Int) == 0) = true := by simpa using h2
         have g3 : (j == 0) = true := by simpa using h2
         clear h2
         go_wp2_with fail
         go_meet
         case rel => exact ⟨by rw [HG.out], rfl⟩
       · have HG : Hid (goB j x.l.length = false) := hD (by simp [goB, h1, h2])
         have g2 : ((j : Int) == 0) = false := by simpa using h2
         have g3 : (j == 0) = false := by simpa using h2
         clear h2
         go_wp2_with fail
         go_meet
         case rel => exact ⟨by rw [HG.out], rfl⟩
    case rest =>
     obtain ⟨rfl, rfl⟩ := hcut
     cases hB : goB j x.l.length
     · clear hB b3 lb
       have b2 := HD.out.box 2 _ rfl
       have lb : w.heap.size < (World.heap wr).size := by have := HD.out.lt; have := HD.out.dv.lt; omega
       go_wp2_with fail
       clear b2 lb
       go_loopw [8] (fun i wy => ∃ (k : Nat) (q3 : Value), i = .int .i64 k ∧ k ≤ C % 3 ∧ Dep w [.int .u8 (N : Int), .int .u8 (Wt : Int), .int .u8 (C : Int), .slice x.a x.l.length x.c] g (.slice (some ⟨w.heap.size + 1 + 1, 0, none⟩) 4 5) (.slice (some ⟨qb, 0, none⟩) 1 1) u j j k q1 q2 q3 wy ∧ ∃ xs, wy.ownsRow (g + 1) 80 3 q3 k xs) (fun i _ => 2 - (intOf i).toNat)
       case atStart => exact ⟨0, _, rfl, by omega, HD.out, [], World.ownsRow_nil _ _ _ _⟩
       case round =>
        rename World => wy
        obtain ⟨k, q3, rfl, hk, hd, xs3, how3⟩ := hrel
        have HDy := hD hd
        have HO3 := hD how3
        obtain ⟨A3, c3, rfl⟩ := ownsRow_form how3
        clear hd how3 HD
        have k0' : (0 : Int) ≤ (k : Int) := by omega
        have b2 := HDy.out.box 2 _ rfl
        have lb : w.heap.size < (World.heap wy).size := by have := HDy.out.lt; have := HDy.out.dv.lt; omega
        by_cases hlt : k < C % 3
        · have k1 : (k : Int) < (C : Int) % 3 := by omega
          have k2n : k < 2 := by omega
          have k2 : (k : Int) < 2 := by omega
          have k3 : decide ((k : Int) < (C : Int) % 3) = true := by simpa using k1
          go_upto_region 18 with fail
          clear b2 lb k1 k3
          refine wp_region_noPanic ?_
          have HDx : Hid (Dep w [.int .u8 (N : Int), .int .u8 (Wt : Int), .int .u8 (C : Int), .slice x.a x.l.length x.c] g (.slice (some ⟨w.heap.size + 1 + 1, 0, none⟩) 4 5) (.slice (some ⟨qb, 0, none⟩) 1 1) u j j k q1 q2 (.slice A3 k c3) wy.drew) := hD (HDy.out.below (Below.refl _ _).drew)
          have HOx1 : Hid (World.ownsRow wy.drew (g + 1) 80 3 (.slice A3 k c3) k xs3) := hD (ownsRow_below HO3.out (Below.refl _ _).drew)
          generalize hv : wy.drew = v0 at HDx HOx1
          have hS0 : w.heap.size ≤ (World.heap v0).size := HDx.out.low.size
          refine wp_region_held_drew (S := fun W => w.heap.size ≤ (World.heap W).size) (by kernel_rfl) (by rw [hv]; exact hS0) (fun hHeld => ?_)
          rw [hv] at hHeld ⊢
          clear hv
          refine takes [0,3] ?_
          refine wpAnyH_ready (rs := [1, 2]) (by kernel_rfl) (by simp) ?_
          refine AllReadyH.cons (o := _) rfl (fun K hK => ?_) (AllReadyH.cons (o := _) rfl (fun K hK => ?_) AllReadyH.nil)
          · have ca := HDx.out.dv.cells 5 _ rfl
            have la := HDx.out.dv.lt
            go_simp
            clear ca la
            have hSx : w.heap.size ≤ (World.heap v0).size := HDx.out.low.size
            refine hK.out _ _ hSx (fun hHeld => ?_)
            clear hK K hSx
            try simp only [Act.put,qk1,qk2,qk3,qk4,qk5,qk6]
            refine tkr 2 rfl (fun K hK => ?_)
            go_simp
            have HAnb : Hid (Rd (World.alloc v0 (.cells #[.string ⟨#[107, 48]⟩, .string ⟨#[107, 49]⟩] 9)) 1 (some ⟨(World.heap v0).size, 0, none⟩) 2 [.string ⟨#[107, 48]⟩, .string ⟨#[107, 49]⟩]) := hD (rd_new v0 1 2 [.string ⟨#[107, 48]⟩, .string ⟨#[107, 49]⟩] 9 rfl)
            have HLnb : Hid ((World.heap v0).size < (World.heap (World.alloc v0 (.cells #[.string ⟨#[107, 48]⟩, .string ⟨#[107, 49]⟩] 9))).size) := hD (by simp)
            have hbx := below_new v0 (.cells #[.string ⟨#[107, 48]⟩, .string ⟨#[107, 49]⟩] 9)
            have HDx := hD (HDx.out.below hbx)
            have HOx1 := hD (ownsRow_below HOx1.out hbx)
            clear hbx
            generalize World.alloc v0 (.cells #[.string ⟨#[107, 48]⟩, .string ⟨#[107, 49]⟩] 9) = v1 at HAnb HLnb HDx HOx1 ⊢
            generalize (World.heap v0).size = nb at HAnb HLnb ⊢
            have hS1 : w.heap.size ≤ (World.heap v1).size := HDx.out.low.size
            refine hK.out _ _ hS1 (fun hHeld => ?_)
            clear hK K
            try simp only [Act.put,qk1,qk2,qk3,qk4,qk5,qk6]
            refine takes [4] ?_
            refine tkr 5 rfl (fun K hK => ?_)
            obtain ⟨nm, hnm⟩ : ∃ nm, World.cell? v1 ⟨nb, k, none⟩ = some (.string nm) := two_at HAnb.out (by omega)
            have lnb := (two_lt HAnb.out)
            go_simp
            have hSx : w.heap.size ≤ (World.heap v1).size := HDx.out.low.size
            refine hK.out _ _ hSx (fun hHeld => ?_)
            clear hK K hSx
            try simp only [Act.put,qk1,qk2,qk3,qk4,qk5,qk6]
            refine takes [6] ?_
            refine tkr 7 rfl (fun K hK => ?_)
            go_simp
            have HAnc : Hid (Rd (World.alloc v1 (.cells #[.string nm, .bool true, .slice none 0 0] 80)) 3 (some ⟨(World.heap v1).size, 0, none⟩) 1 [.string nm, .bool true, .slice none 0 0]) := hD (rd_new v1 3 1 [.string nm, .bool true, .slice none 0 0] 80 rfl)
            have HLnc : Hid ((World.heap v1).size < (World.heap (World.alloc v1 (.cells #[.string nm, .bool true, .slice none 0 0] 80))).size) := hD (by simp)
            have hbx := below_new v1 (.cells #[.string nm, .bool true, .slice none 0 0] 80)
            have HDx := hD (HDx.out.below hbx)
            have HOx1 := hD (ownsRow_below HOx1.out hbx)
            clear hbx
            generalize World.alloc v1 (.cells #[.string nm, .bool true, .slice none 0 0] 80) = v2 at HAnc HLnc HDx HOx1 ⊢
            generalize (World.heap v1).size = nc at HAnc HLnc ⊢
            have hS2 : w.heap.size ≤ (World.heap v2).size := HDx.out.low.size
            refine hK.out _ _ hS2 (fun hHeld => ?_)
            clear hK K
            try simp only [Act.put,qk1,qk2,qk3,qk4,qk5,qk6]
            refine tkr 8 rfl (fun K hK => ?_)
            refine step_apg elemCl rfl _ _ (by rfl) (g + 1) (by rfl) HOx1.out (by rfl) HAnc.out (by simp [Value.oneCell']) (by omega) (by omega) (by have := HDx.out.dv.lt; omega) ?_
            intro A4 c4 v3 hown4 hg4
            have HO4 := hD hown4
            have HG4 := hD hg4
            have HDp := HDx
            have HOp := HOx1
            have HLw : Hid (w.heap.size ≤ (World.heap v3).size) := hD (Nat.le_trans HDx.out.low.size hg4.size)
            clear hown4 hg4
            have hS3 : w.heap.size ≤ (World.heap v3).size := HLw.out
            refine hK.out _ _ hS3 (fun hHeld => ?_)
            clear hK K
            try simp only [Act.put,qk1,qk2,qk3,qk4,qk5,qk6]
            refine takes [9] ?_
            refine tkr 10 rfl (fun K hK => ?_)
            have HDx := hD (HDp.out.row3 (Below.refl _ _) HOp.out HO4.out (Nat.le_refl _) HG4.out)
            have HOn := hD (own_far HO4.out ⟨g, 5, none⟩ (.slice A4 (k + 1) c4) (by show g < g + 1; omega))
            have cz := (HG4.out.cell_far ⟨g, 5, none⟩ HDp.out.dv.lt (by simpa using fun e => by have := (HOp.out.lt g e.symm).1; omega)).trans (HDp.out.dv.cells 5 _ rfl)
            have fz := (HG4.out.frozen_far ⟨g, 5, none⟩ HDp.out.dv.lt (by simpa using fun e => by have := (HOp.out.lt g e.symm).1; omega)).trans (HDp.out.dv.free 5 (by simp))
            have lz : g < (World.heap v3).size := Nat.lt_of_lt_of_le HDp.out.dv.lt HG4.out.size
            go_simp
            clear cz fz lz
            generalize World.setCell v3 ⟨g, 5, none⟩ (.slice A4 (k + 1) c4) = v4 at HDx HOn ⊢
            have hS4 : w.heap.size ≤ (World.heap v4).size := HDx.out.low.size
            refine hK.out _ _ hS4 (fun hHeld => ?_)
            clear hK K
            try simp only [Act.put,qk1,qk2,qk3,qk4,qk5,qk6]
            refine wpAnyH_done (by kernel_rfl) ?_ _
            refine NoPanic.normal ?_
            go_wp2_with fail
            go_roundw
            case rel => exact ⟨k + 1, _, by go_num, by omega, HDx.out, _, HOn.out⟩
            case measure => simp [intOf]; omega
          · go_simp
            have HAnb : Hid (Rd (World.alloc v0 (.cells #[.string ⟨#[107, 48]⟩, .string ⟨#[107, 49]⟩] 9)) 1 (some ⟨(World.heap v0).size, 0, none⟩) 2 [.string ⟨#[107, 48]⟩, .string ⟨#[107, 49]⟩]) := hD (rd_new v0 1 2 [.string ⟨#[107, 48]⟩, .string ⟨#[107, 49]⟩] 9 rfl)
            have HLnb : Hid ((World.heap v0).size < (World.heap (World.alloc v0 (.cells #[.string ⟨#[107, 48]⟩, .string ⟨#[107, 49]⟩] 9))).size) := hD (by simp)
            have hbx := below_new v0 (.cells #[.string ⟨#[107, 48]⟩, .string ⟨#[107, 49]⟩] 9)
            have HDx := hD (HDx.out.below hbx)
            have HOx1 := hD (ownsRow_below HOx1.out hbx)
            clear hbx
            generalize World.alloc v0 (.cells #[.string ⟨#[107, 48]⟩, .string ⟨#[107, 49]⟩] 9) = v1 at HAnb HLnb HDx HOx1 ⊢
            generalize (World.heap v0).size = nb at HAnb HLnb ⊢
            have hS1 : w.heap.size ≤ (World.heap v1).size := HDx.out.low.size
            refine hK.out _ _ hS1 (fun hHeld => ?_)
            clear hK K
            try simp only [Act.put,qk1,qk2,qk3,qk4,qk5,qk6]
            refine takes [4] ?_
            refine wpAnyH_ready (rs := [1, 5]) (by kernel_rfl) (by simp) ?_
            refine AllReadyH.cons (o := _) rfl (fun K hK => ?_) (AllReadyH.cons (o := _) rfl (fun K hK => ?_) AllReadyH.nil)
            · have ca := HDx.out.dv.cells 5 _ rfl
              have la := HDx.out.dv.lt
              go_simp
              clear ca la
              have hSx : w.heap.size ≤ (World.heap v1).size := HDx.out.low.size
              refine hK.out _ _ hSx (fun hHeld => ?_)
              clear hK K hSx
              try simp only [Act.put,qk1,qk2,qk3,qk4,qk5,qk6]
              refine tkr 5 rfl (fun K hK => ?_)
              obtain ⟨nm, hnm⟩ : ∃ nm, World.cell? v1 ⟨nb, k, none⟩ = some (.string nm) := two_at HAnb.out (by omega)
              have lnb := (two_lt HAnb.out)
              go_simp
              have hSx : w.heap.size ≤ (World.heap v1).size := HDx.out.low.size
              refine hK.out _ _ hSx (fun hHeld => ?_)
              clear hK K hSx
              try simp only [Act.put,qk1,qk2,qk3,qk4,qk5,qk6]
              refine takes [6] ?_
              refine tkr 7 rfl (fun K hK => ?_)
              go_simp
              have HAnc : Hid (Rd (World.alloc v1 (.cells #[.string nm, .bool true, .slice none 0 0] 80)) 3 (some ⟨(World.heap v1).size, 0, none⟩) 1 [.string nm, .bool true, .slice none 0 0]) := hD (rd_new v1 3 1 [.string nm, .bool true, .slice none 0 0] 80 rfl)
              have HLnc : Hid ((World.heap v1).size < (World.heap (World.alloc v1 (.cells #[.string nm, .bool true, .slice none 0 0] 80))).size) := hD (by simp)
              have hbx := below_new v1 (.cells #[.string nm, .bool true, .slice none 0 0] 80)
              have HDx := hD (HDx.out.below hbx)
              have HOx1 := hD (ownsRow_below HOx1.out hbx)
              clear hbx
              generalize World.alloc v1 (.cells #[.string nm, .bool true, .slice none 0 0] 80) = v2 at HAnc HLnc HDx HOx1 ⊢
              generalize (World.heap v1).size = nc at HAnc HLnc ⊢
              have hS2 : w.heap.size ≤ (World.heap v2).size := HDx.out.low.size
              refine hK.out _ _ hS2 (fun hHeld => ?_)
              clear hK K
              try simp only [Act.put,qk1,qk2,qk3,qk4,qk5,qk6]
              refine tkr 8 rfl (fun K hK => ?_)
              refine step_apg elemCl rfl _ _ (by rfl) (g + 1) (by rfl) HOx1.out (by rfl) HAnc.out (by simp [Value.oneCell']) (by omega) (by omega) (by have := HDx.out.dv.lt; omega) ?_
              intro A4 c4 v3 hown4 hg4
              have HO4 := hD hown4
              have HG4 := hD hg4
              have HDp := HDx
              have HOp := HOx1
              have HLw : Hid (w.heap.size ≤ (World.heap v3).size) := hD (Nat.le_trans HDx.out.low.size hg4.size)
              clear hown4 hg4
              have hS3 : w.heap.size ≤ (World.heap v3).size := HLw.out
              refine hK.out _ _ hS3 (fun hHeld => ?_)
              clear hK K
              try simp only [Act.put,qk1,qk2,qk3,qk4,qk5,qk6]
              refine takes [9] ?_
              refine tkr 10 rfl (fun K hK => ?_)
              have HDx := hD (HDp.out.row3 (Below.refl _ _) HOp.out HO4.out (Nat.le_refl _) HG4.out)
              have HOn := hD (own_far HO4.out ⟨g, 5, none⟩ (.slice A4 (k + 1) c4) (by show g < g + 1; omega))
              have cz := (HG4.out.cell_far ⟨g, 5, none⟩ HDp.out.dv.lt (by simpa using fun e => by have := (HOp.out.lt g e.symm).1; omega)).trans (HDp.out.dv.cells 5 _ rfl)
              have fz := (HG4.out.frozen_far ⟨g, 5, none⟩ HDp.out.dv.lt (by simpa using fun e => by have := (HOp.out.lt g e.symm).1; omega)).trans (HDp.out.dv.free 5 (by simp))
              have lz : g < (World.heap v3).size := Nat.lt_of_lt_of_le HDp.out.dv.lt HG4.out.size
              go_simp
              clear cz fz lz
              generalize World.setCell v3 ⟨g, 5, none⟩ (.slice A4 (k + 1) c4) = v4 at HDx HOn ⊢
              have hS4 : w.heap.size ≤ (World.heap v4).size := HDx.out.low.size
              refine hK.out _ _ hS4 (fun hHeld => ?_)
              clear hK K
              try simp only [Act.put,qk1,qk2,qk3,qk4,qk5,qk6]
              refine wpAnyH_done (by kernel_rfl) ?_ _
              refine NoPanic.normal ?_
              go_wp2_with fail
              go_roundw
              case rel => exact ⟨k + 1, _, by go_num, by omega, HDx.out, _, HOn.out⟩
              case measure => simp [intOf]; omega
            · obtain ⟨nm, hnm⟩ : ∃ nm, World.cell? v1 ⟨nb, k, none⟩ = some (.string nm) := two_at HAnb.out (by omega)
              have lnb := (two_lt HAnb.out)
              go_simp
              have hSx : w.heap.size ≤ (World.heap v1).size := HDx.out.low.size
              refine hK.out _ _ hSx (fun hHeld => ?_)
              clear hK K hSx
              try simp only [Act.put,qk1,qk2,qk3,qk4,qk5,qk6]
              refine takes [6] ?_
              refine wpAnyH_ready (rs := [1, 7]) (by kernel_rfl) (by simp) ?_
              refine AllReadyH.cons (o := _) rfl (fun K hK => ?_) (AllReadyH.cons (o := _) rfl (fun K hK => ?_) AllReadyH.nil)
              · have ca := HDx.out.dv.cells 5 _ rfl
                have la := HDx.out.dv.lt
                go_simp
                clear ca la
                have hSx : w.heap.size ≤ (World.heap v1).size := HDx.out.low.size
                refine hK.out _ _ hSx (fun hHeld => ?_)
                clear hK K hSx
                try simp only [Act.put,qk1,qk2,qk3,qk4,qk5,qk6]
                refine tkr 7 rfl (fun K hK => ?_)
                go_simp
                have HAnc : Hid (Rd (World.alloc v1 (.cells #[.string nm, .bool true, .slice none 0 0] 80)) 3 (some ⟨(World.heap v1).size, 0, none⟩) 1 [.string nm, .bool true, .slice none 0 0]) := hD (rd_new v1 3 1 [.string nm, .bool true, .slice none 0 0] 80 rfl)
                have HLnc : Hid ((World.heap v1).size < (World.heap (World.alloc v1 (.cells #[.string nm, .bool true, .slice none 0 0] 80))).size) := hD (by simp)
                have hbx := below_new v1 (.cells #[.string nm, .bool true, .slice none 0 0] 80)
                have HDx := hD (HDx.out.below hbx)
                have HOx1 := hD (ownsRow_below HOx1.out hbx)
                clear hbx
                generalize World.alloc v1 (.cells #[.string nm, .bool true, .slice none 0 0] 80) = v2 at HAnc HLnc HDx HOx1 ⊢
                generalize (World.heap v1).size = nc at HAnc HLnc ⊢
                have hS2 : w.heap.size ≤ (World.heap v2).size := HDx.out.low.size
                refine hK.out _ _ hS2 (fun hHeld => ?_)
                clear hK K
                try simp only [Act.put,qk1,qk2,qk3,qk4,qk5,qk6]
                refine tkr 8 rfl (fun K hK => ?_)
                refine step_apg elemCl rfl _ _ (by rfl) (g + 1) (by rfl) HOx1.out (by rfl) HAnc.out (by simp [Value.oneCell']) (by omega) (by omega) (by have := HDx.out.dv.lt; omega) ?_
                intro A4 c4 v3 hown4 hg4
                have HO4 := hD hown4
                have HG4 := hD hg4
                have HDp := HDx
                have HOp := HOx1
                have HLw : Hid (w.heap.size ≤ (World.heap v3).size) := hD (Nat.le_trans HDx.out.low.size hg4.size)
                clear hown4 hg4
                have hS3 : w.heap.size ≤ (World.heap v3).size := HLw.out
                refine hK.out _ _ hS3 (fun hHeld => ?_)
                clear hK K
                try simp only [Act.put,qk1,qk2,qk3,qk4,qk5,qk6]
                refine takes [9] ?_
                refine tkr 10 rfl (fun K hK => ?_)
                have HDx := hD (HDp.out.row3 (Below.refl _ _) HOp.out HO4.out (Nat.le_refl _) HG4.out)
                have HOn := hD (own_far HO4.out ⟨g, 5, none⟩ (.slice A4 (k + 1) c4) (by show g < g + 1; omega))
                have cz := (HG4.out.cell_far ⟨g, 5, none⟩ HDp.out.dv.lt (by simpa using fun e => by have := (HOp.out.lt g e.symm).1; omega)).trans (HDp.out.dv.cells 5 _ rfl)
                have fz := (HG4.out.frozen_far ⟨g, 5, none⟩ HDp.out.dv.lt (by simpa using fun e => by have := (HOp.out.lt g e.symm).1; omega)).trans (HDp.out.dv.free 5 (by simp))
                have lz : g < (World.heap v3).size := Nat.lt_of_lt_of_le HDp.out.dv.lt HG4.out.size
                go_simp
                clear cz fz lz
                generalize World.setCell v3 ⟨g, 5, none⟩ (.slice A4 (k + 1) c4) = v4 at HDx HOn ⊢
                have hS4 : w.heap.size ≤ (World.heap v4).size := HDx.out.low.size
                refine hK.out _ _ hS4 (fun hHeld => ?_)
                clear hK K
                try simp only [Act.put,qk1,qk2,qk3,qk4,qk5,qk6]
                refine wpAnyH_done (by kernel_rfl) ?_ _
                refine NoPanic.normal ?_
                go_wp2_with fail
                go_roundw
                case rel => exact ⟨k + 1, _, by go_num, by omega, HDx.out, _, HOn.out⟩
                case measure => simp [intOf]; omega
              · go_simp
                have HAnc : Hid (Rd (World.alloc v1 (.cells #[.string nm, .bool true, .slice none 0 0] 80)) 3 (some ⟨(World.heap v1).size, 0, none⟩) 1 [.string nm, .bool true, .slice none 0 0]) := hD (rd_new v1 3 1 [.string nm, .bool true, .slice none 0 0] 80 rfl)
                have HLnc : Hid ((World.heap v1).size < (World.heap (World.alloc v1 (.cells #[.string nm, .bool true, .slice none 0 0] 80))).size) := hD (by simp)
                have hbx := below_new v1 (.cells #[.string nm, .bool true, .slice none 0 0] 80)
                have HDx := hD (HDx.out.below hbx)
                have HOx1 := hD (ownsRow_below HOx1.out hbx)
                clear hbx
                generalize World.alloc v1 (.cells #[.string nm, .bool true, .slice none 0 0] 80) = v2 at HAnc HLnc HDx HOx1 ⊢
                generalize (World.heap v1).size = nc at HAnc HLnc ⊢
                have hS2 : w.heap.size ≤ (World.heap v2).size := HDx.out.low.size
                refine hK.out _ _ hS2 (fun hHeld => ?_)
                clear hK K
                try simp only [Act.put,qk1,qk2,qk3,qk4,qk5,qk6]
                refine tkr 1 rfl (fun K hK => ?_)
                have ca := HDx.out.dv.cells 5 _ rfl
                have la := HDx.out.dv.lt
                go_simp
                clear ca la
                have hSx : w.heap.size ≤ (World.heap v2).size := HDx.out.low.size
                refine hK.out _ _ hSx (fun hHeld => ?_)
                clear hK K hSx
                try simp only [Act.put,qk1,qk2,qk3,qk4,qk5,qk6]
                refine tkr 8 rfl (fun K hK => ?_)
                refine step_apg elemCl rfl _ _ (by rfl) (g + 1) (by rfl) HOx1.out (by rfl) HAnc.out (by simp [Value.oneCell']) (by omega) (by omega) (by have := HDx.out.dv.lt; omega) ?_
                intro A4 c4 v3 hown4 hg4
                have HO4 := hD hown4
                have HG4 := hD hg4
                have HDp := HDx
                have HOp := HOx1
                have HLw : Hid (w.heap.size ≤ (World.heap v3).size) := hD (Nat.le_trans HDx.out.low.size hg4.size)
                clear hown4 hg4
                have hS3 : w.heap.size ≤ (World.heap v3).size := HLw.out
                refine hK.out _ _ hS3 (fun hHeld => ?_)
                clear hK K
                try simp only [Act.put,qk1,qk2,qk3,qk4,qk5,qk6]
                refine takes [9] ?_
                refine tkr 10 rfl (fun K hK => ?_)
                have HDx := hD (HDp.out.row3 (Below.refl _ _) HOp.out HO4.out (Nat.le_refl _) HG4.out)
                have HOn := hD (own_far HO4.out ⟨g, 5, none⟩ (.slice A4 (k + 1) c4) (by show g < g + 1; omega))
                have cz := (HG4.out.cell_far ⟨g, 5, none⟩ HDp.out.dv.lt (by simpa using fun e => by have := (HOp.out.lt g e.symm).1; omega)).trans (HDp.out.dv.cells 5 _ rfl)
                have fz := (HG4.out.frozen_far ⟨g, 5, none⟩ HDp.out.dv.lt (by simpa using fun e => by have := (HOp.out.lt g e.symm).1; omega)).trans (HDp.out.dv.free 5 (by simp))
                have lz : g < (World.heap v3).size := Nat.lt_of_lt_of_le HDp.out.dv.lt HG4.out.size
                go_simp
                clear cz fz lz
                generalize World.setCell v3 ⟨g, 5, none⟩ (.slice A4 (k + 1) c4) = v4 at HDx HOn ⊢
                have hS4 : w.heap.size ≤ (World.heap v4).size := HDx.out.low.size
                refine hK.out _ _ hS4 (fun hHeld => ?_)
                clear hK K
                try simp only [Act.put,qk1,qk2,qk3,qk4,qk5,qk6]
                refine wpAnyH_done (by kernel_rfl) ?_ _
                refine NoPanic.normal ?_
                go_wp2_with fail
                go_roundw
                case rel => exact ⟨k + 1, _, by go_num, by omega, HDx.out, _, HOn.out⟩
                case measure => simp [intOf]; omega
        · have k1 : (C : Int) % 3 ≤ (k : Int) := by omega
          have k4 : ¬ (k : Int) < (C : Int) % 3 := by omega
          have hkc : k = C % 3 := by omega
          have HK := hD hkc
          clear hkc hlt hk
          obtain ⟨n1, xs1, hn1, how1⟩ := HDy.out.o1
          obtain ⟨A1, c1, rfl⟩ := ownsRow_form how1
          obtain ⟨n2, xs2, hn2, how2⟩ := HDy.out.o2
          obtain ⟨A2, c2, rfl⟩ := ownsRow_form how2
          clear how1 how2 hn1 hn2
          have z0 := HDy.out.dv.cells 0 _ rfl
          have z1 := HDy.out.dv.cells 1 _ rfl
          have z2 := HDy.out.dv.cells 2 _ rfl
          have z3 := HDy.out.dv.cells 3 _ rfl
          have z4 := HDy.out.dv.cells 4 _ rfl
          have z5 := HDy.out.dv.cells 5 _ rfl
          have y0 := HDy.out.res.cells 0 _ rfl
          have e0 := HDy.out.res.free 0 (by simp)
          have y1 := HDy.out.res.cells 1 _ rfl
          have e1 := HDy.out.res.free 1 (by simp)
          have y2 := HDy.out.res.cells 2 _ rfl
          have e2 := HDy.out.res.free 2 (by simp)
          have y3 := HDy.out.res.cells 3 _ rfl
          have e3 := HDy.out.res.free 3 (by simp)
          have y4 := HDy.out.res.cells 4 _ rfl
          have e4 := HDy.out.res.free 4 (by simp)
          have y5 := HDy.out.res.cells 5 _ rfl
          have e5 := HDy.out.res.free 5 (by simp)
          have lg := HDy.out.dv.lt
          have lr := HDy.out.res.lt
          have hlt := HDy.out.lt
          have hne : g ≠ w.heap.size + 1 := by omega
          have hne2 : w.heap.size + 1 ≠ g := by omega
          have hge : w.heap.size ≤ w.heap.size + 1 := by omega
          go_wp2_with fail
          refine bodyPost_ret (v := .agg #[.slice (some ⟨w.heap.size + 1 + 1, 0, none⟩) 4 5, .slice (some ⟨qb, 0, none⟩) 1 1, .int .u16 u, .slice A1 n1 c1, .slice A2 n2 c2, .slice A3 k c3]) (by simp [results, Tryz.results8, go_sem, y0, y1, y2, y3, y4, y5]) rfl ⟨⟨some ⟨w.heap.size + 1 + 1, 0, none⟩, some ⟨qb, 0, none⟩, A1, A2, A3, u, 5, 1, 1, n1, c1, n2, c2, c3, by rw [← HK.out]⟩, ?_⟩
          exact (((((HDy.out.low.setCell hge _).setCell hge _).setCell hge _).setCell hge _).setCell hge _).setCell hge _
     · have i2n : j < 2 := by
         have := of_decide_eq_true hB
         omega
       have i2 : (j : Int) < 2 := by omega
       clear hB
       have HW0 : Hid (Below wr.heap.size wr (((wr.alloc (.cells #[.int .u16 2] 25)).alloc (.cells #[.int .u16 2] 25)).alloc (.cells #[.int .u8 0, .int .u8 0, .int .u8 1, .slice (some ⟨wr.heap.size, 0, none⟩) 1 1, .slice (some ⟨wr.heap.size + 1, 0, none⟩) 1 1, .slice none 0 0] 74))) := hD (bon (bon (below_new wr _) (below_new _ _)) (below_new _ _))
       have HV0 : Hid (Vz (((wr.alloc (.cells #[.int .u16 2] 25)).alloc (.cells #[.int .u16 2] 25)).alloc (.cells #[.int .u8 0, .int .u8 0, .int .u8 1, .slice (some ⟨wr.heap.size, 0, none⟩) 1 1, .slice (some ⟨wr.heap.size + 1, 0, none⟩) 1 1, .slice none 0 0] 74)) (wr.heap.size + 1 + 1) [.int .u8 0, .int .u8 0, .int .u8 1, .slice (some ⟨wr.heap.size, 0, none⟩) 1 1, .slice (some ⟨wr.heap.size + 1, 0, none⟩) 1 1, .slice none 0 0]) := hD (by
        have := Vz.new ((wr.alloc (.cells #[.int .u16 2] 25)).alloc (.cells #[.int .u16 2] 25)) [.int .u8 0, .int .u8 0, .int .u8 1, .slice (some ⟨wr.heap.size, 0, none⟩) 1 1, .slice (some ⟨wr.heap.size + 1, 0, none⟩) 1 1, .slice none 0 0] 74
        rw [World.size_alloc, World.size_alloc] at this
        exact this)
       have HR1 : Hid (Rd (((wr.alloc (.cells #[.int .u16 2] 25)).alloc (.cells #[.int .u16 2] 25)).alloc (.cells #[.int .u8 0, .int .u8 0, .int .u8 1, .slice (some ⟨wr.heap.size, 0, none⟩) 1 1, .slice (some ⟨wr.heap.size + 1, 0, none⟩) 1 1, .slice none 0 0] 74)) 1 (some ⟨wr.heap.size, 0, none⟩) 1 (setC [2])) := hD (((rd_new wr 1 1 (setC [2]) 25 rfl).below (below_new _ _)).below (below_new _ _))
       have HR2 : Hid (Rd (((wr.alloc (.cells #[.int .u16 2] 25)).alloc (.cells #[.int .u16 2] 25)).alloc (.cells #[.int .u8 0, .int .u8 0, .int .u8 1, .slice (some ⟨wr.heap.size, 0, none⟩) 1 1, .slice (some ⟨wr.heap.size + 1, 0, none⟩) 1 1, .slice none 0 0] 74)) 1 (some ⟨wr.heap.size + 1, 0, none⟩) 1 (setC [2])) := hD (by
        have := (rd_new (wr.alloc (.cells #[.int .u16 2] 25)) 1 1 (setC [2]) 25 rfl).below (below_new _ (.cells #[.int .u8 0, .int .u8 0, .int .u8 1, .slice (some ⟨wr.heap.size, 0, none⟩) 1 1, .slice (some ⟨wr.heap.size + 1, 0, none⟩) 1 1, .slice none 0 0] 74))
        rw [World.size_alloc] at this
        exact this)
       obtain ⟨wc, hwc⟩ : ∃ wc, wc = (((wr.alloc (.cells #[.int .u16 2] 25)).alloc (.cells #[.int .u16 2] 25)).alloc (.cells #[.int .u8 0, .int .u8 0, .int .u8 1, .slice (some ⟨wr.heap.size, 0, none⟩) 1 1, .slice (some ⟨wr.heap.size + 1, 0, none⟩) 1 1, .slice none 0 0] 74)) := ⟨_, rfl⟩
       rw [← hwc] at HW0 HV0 HR1 HR2
       have HWC := hD hwc
       have HDc := hD (HD.out.below HW0.out)
       have HZc : Hid (wc.heap.size = wr.heap.size + 1 + 1 + 1) := hD (by rw [hwc]; simp)
       clear hwc b3 lb
       go_upto_region 10 with fail
       rw [← HWC.out]
       have b3 := HDc.out.box 3 _ rfl
       have lb : w.heap.size < (World.heap wc).size := by have := HDc.out.lt; have := HDc.out.dv.lt; omega
       go_upto_if 61 with fail
       go_cut [] from 57 to 66 (fun wx => ∃ (d : Dr) (n0 : Int), Below wr.heap.size wr wx ∧ Vz wx (wr.heap.size + 1 + 1) [.int .u8 (d.kind : Int), .int .u8 n0, .int .u8 (d.mode : Int), .slice d.read.a d.read.l.length d.read.c, .slice d.write.a d.write.l.length d.write.c, .slice d.faults.a d.faults.l.length d.faults.c] ∧ ∀ v : Value, d.ok (World.setCell wx ⟨wr.heap.size + 1 + 1, 1, none⟩ v))
       case first =>
        have lg : wr.heap.size + 1 + 1 < wc.heap.size := by have := HZc.out; omega
        by_cases hj1 : j < x.l.length
        · have i1 : (j : Int) < (x.l.length : Int) := by omega
          have g1 : decide (j < x.l.length) = true := by simpa using hj1
          have hokd := HOk.out _ (List.getElem_mem hj1)
          obtain ⟨b, off, hA, hbl, hcc⟩ := HXs.out.at drC_len (by omega) hj1
          obtain ⟨d, hde⟩ : ∃ d, d = x.l[j] := ⟨_, rfl⟩
          rw [← hde] at hcc hokd
          have HOd := hD hokd
          have d0 := hcc wc HDc.out.low 0 _ rfl
          have d1 := hcc wc HDc.out.low 1 _ rfl
          have d2 := hcc wc HDc.out.low 2 _ rfl
          have d3 := hcc wc HDc.out.low 3 _ rfl
          have d4 := hcc wc HDc.out.low 4 _ rfl
          have d5 := hcc wc HDc.out.low 5 _ rfl
          rw [Nat.add_zero] at d0
          have hbr : b < wc.heap.size := by have := HDc.out.low.size; omega
          have hbg : b ≠ wr.heap.size + 1 + 1 := by have := HD.out.low.size; omega
          have hrun : ∀ W, Sem.run Tryz.prog (Instr.indexAt 22 (.slice x.a x.l.length x.c) (.int .i64 j)) W = .ok (Value.pointer (some ⟨b, off + j * 6, none⟩)) W := fun W => by
           rw [hA]; go_simp
          clear hcc hde hA hokd
          have z0 := HV0.out.cells 0 _ rfl
          have f0 := HV0.out.free 0 (by simp)
          have z1 := HV0.out.cells 1 _ rfl
          have f1 := HV0.out.free 1 (by simp)
          have z2 := HV0.out.cells 2 _ rfl
          have f2 := HV0.out.free 2 (by simp)
          have z3 := HV0.out.cells 3 _ rfl
          have f3 := HV0.out.free 3 (by simp)
          have z4 := HV0.out.cells 4 _ rfl
          have f4 := HV0.out.free 4 (by simp)
          have z5 := HV0.out.cells 5 _ rfl
          have f5 := HV0.out.free 5 (by simp)
          go_wp2_with fail
          go_meet
          case rel =>
           have hge : wr.heap.size ≤ wr.heap.size + 1 + 1 := by omega
           have hb := (((((HW0.out.setCell (p := ⟨wr.heap.size + 1 + 1, 0, none⟩) hge (.int .u8 (d.kind : Int))).setCell (p := ⟨wr.heap.size + 1 + 1, 1, none⟩) hge (.int .u8 (d.n : Int))).setCell (p := ⟨wr.heap.size + 1 + 1, 2, none⟩) hge (.int .u8 (d.mode : Int))).setCell (p := ⟨wr.heap.size + 1 + 1, 3, none⟩) hge (.slice d.read.a d.read.l.length d.read.c)).setCell (p := ⟨wr.heap.size + 1 + 1, 4, none⟩) hge (.slice d.write.a d.write.l.length d.write.c)).setCell (p := ⟨wr.heap.size + 1 + 1, 5, none⟩) hge (.slice d.faults.a d.faults.l.length d.faults.c)
           exact ⟨d, (d.n : Int), hb, ((((((HV0.out.set 0 _).set 1 _).set 2 _).set 3 _).set 4 _).set 5 _).eq rfl, fun v => HOd.out.below (bon HD.out.low (hb.setCell (p := ⟨wr.heap.size + 1 + 1, 1, none⟩) hge v))⟩
        · have g1 : decide (j < x.l.length) = false := by simpa using hj1
          have g2 : decide ((j : Int) < (x.l.length : Int)) = false := decide_eq_false (by omega)
          have i1 : (x.l.length : Int) ≤ (j : Int) := by omega
          have i3 : ¬ (j : Int) < (x.l.length : Int) := by omega
          clear hj1
          go_wp2_with fail
          go_meet
          case rel => exact ⟨⟨0, 3, 1, ⟨some ⟨wr.heap.size, 0, none⟩, 1, [2]⟩, ⟨some ⟨wr.heap.size + 1, 0, none⟩, 1, [2]⟩, ⟨none, 0, []⟩⟩, 0, HW0.out, HV0.out.eq rfl, fun v => ⟨show 1 < 256 by decide, show 0 < 256 by decide, rd_far HR1.out _ (by show wr.heap.size ≠ wr.heap.size + 1 + 1; omega) _, by simp [u16s], rd_far HR2.out _ (by show wr.heap.size + 1 ≠ wr.heap.size + 1 + 1; omega) _, by simp [u16s], Rd.nil _ _ _⟩⟩
       case rest =>
        obtain ⟨d, n0, hb9, hv9, hd9⟩ := hcut
        rename World => w9
        have HB9 := hD hb9
        have HV9 := hD hv9
        have HO9 := hD hd9
        have lg : wr.heap.size + 1 + 1 < w9.heap.size := hv9.lt
        have z1 := hv9.cells 1 _ rfl
        have f1 := hv9.free 1 (by simp)
        clear hb9 hv9 hd9 b3 lb HW0 HV0 HR1 HR2 HWC HDc HZc
        go_upto_region 13 with fail
        refine world_gen (X := fun W => Below wr.heap.size wr W ∧ Vz W (wr.heap.size + 1 + 1) [.int .u8 (d.kind : Int), .int .u8 3, .int .u8 (d.mode : Int), .slice d.read.a d.read.l.length d.read.c, .slice d.write.a d.write.l.length d.write.c, .slice d.faults.a d.faults.l.length d.faults.c] ∧ d.ok W) ?_ (fun v0 hv0 => ?_)
        · have hge : wr.heap.size ≤ wr.heap.size + 1 + 1 := by omega
          exact ⟨HB9.out.setCell (p := ⟨wr.heap.size + 1 + 1, 1, none⟩) hge (.int .u8 3), (HV9.out.set 1 _).eq rfl, HO9.out _⟩
        obtain ⟨hb0, hv0, hd0⟩ := hv0
        have HBv := hD hb0
        have HVv := hD hv0
        have HOv := hD hd0
        have HDv := hD (HD.out.below HBv.out)
        clear hb0 hv0 hd0 lg z1 f1
        obtain ⟨n1, xs1, hn1, how1⟩ := HD.out.o1
        have HO1w := hD how1
        obtain ⟨A1, c1, rfl⟩ := ownsRow_form how1
        have HO1 := hD (ownsRow_below HO1w.out HBv.out)
        clear how1
        go_cut [] from 71 to 81 (fun wx => ∃ q1', Dep w [.int .u8 (N : Int), .int .u8 (Wt : Int), .int .u8 (C : Int), .slice x.a x.l.length x.c] g (.slice (some ⟨w.heap.size + 1 + 1, 0, none⟩) 4 5) (.slice (some ⟨qb, 0, none⟩) 1 1) u (j + 1) j 0 q1' q2 (.slice none 0 0) wx)
        case first =>
         refine wp_region_noPanic ?_
         have HDx : Hid (Dep w [.int .u8 (N : Int), .int .u8 (Wt : Int), .int .u8 (C : Int), .slice x.a x.l.length x.c] g (.slice (some ⟨w.heap.size + 1 + 1, 0, none⟩) 4 5) (.slice (some ⟨qb, 0, none⟩) 1 1) u j j 0 (.slice A1 n1 c1) q2 (.slice none 0 0) v0.drew) := hD (HDv.out.below (Below.refl _ _).drew)
         have HVx : Hid (Vz v0.drew (wr.heap.size + 1 + 1) [.int .u8 (d.kind : Int), .int .u8 3, .int .u8 (d.mode : Int), .slice d.read.a d.read.l.length d.read.c, .slice d.write.a d.write.l.length d.write.c, .slice d.faults.a d.faults.l.length d.faults.c]) := hD (HVv.out.below (Below.refl _ _).drew)
         have HOx : Hid (Dr.ok d v0.drew) := hD (HOv.out.below (Below.refl _ _).drew)
         have HOx1 : Hid (World.ownsRow v0.drew (g + 1) 77 6 (.slice A1 n1 c1) n1 xs1) := hD (ownsRow_below HO1.out (Below.refl _ _).drew)
         generalize hv : v0.drew = v0 at HDx HVx HOx HOx1
         have hS0 : World.cell? v0 ⟨wr.heap.size + 1 + 1, 0, none⟩ = some (.int .u8 (d.kind : Int)) ∧ World.cell? v0 ⟨wr.heap.size + 1 + 1, 1, none⟩ = some (.int .u8 3) ∧ World.cell? v0 ⟨wr.heap.size + 1 + 1, 2, none⟩ = some (.int .u8 (d.mode : Int)) ∧ World.cell? v0 ⟨wr.heap.size + 1 + 1, 3, none⟩ = some (.slice d.read.a d.read.l.length d.read.c) ∧ World.cell? v0 ⟨wr.heap.size + 1 + 1, 4, none⟩ = some (.slice d.write.a d.write.l.length d.write.c) ∧ World.cell? v0 ⟨wr.heap.size + 1 + 1, 5, none⟩ = some (.slice d.faults.a d.faults.l.length d.faults.c) := ⟨HVx.out.cells 0 _ rfl, HVx.out.cells 1 _ rfl, HVx.out.cells 2 _ rfl, HVx.out.cells 3 _ rfl, HVx.out.cells 4 _ rfl, HVx.out.cells 5 _ rfl⟩
         refine wp_region_held_drew (S := fun W => World.cell? W ⟨wr.heap.size + 1 + 1, 0, none⟩ = some (.int .u8 (d.kind : Int)) ∧ World.cell? W ⟨wr.heap.size + 1 + 1, 1, none⟩ = some (.int .u8 3) ∧ World.cell? W ⟨wr.heap.size + 1 + 1, 2, none⟩ = some (.int .u8 (d.mode : Int)) ∧ World.cell? W ⟨wr.heap.size + 1 + 1, 3, none⟩ = some (.slice d.read.a d.read.l.length d.read.c) ∧ World.cell? W ⟨wr.heap.size + 1 + 1, 4, none⟩ = some (.slice d.write.a d.write.l.length d.write.c) ∧ World.cell? W ⟨wr.heap.size + 1 + 1, 5, none⟩ = some (.slice d.faults.a d.faults.l.length d.faults.c)) (by kernel_rfl) (by rw [hv]; exact hS0) (fun hHeld => ?_)
         rw [hv] at hHeld ⊢
         clear hv
         refine takes [0,2,4] ?_
         refine wpAnyH_ready (rs := [1, 3]) (by kernel_rfl) (by simp) ?_
         refine AllReadyH.cons (o := _) rfl (fun K hK => ?_) (AllReadyH.cons (o := _) rfl (fun K hK => ?_) AllReadyH.nil)
         · have ca := HDx.out.dv.cells 3 _ rfl
           have la := HDx.out.dv.lt
           go_simp
           clear ca la
           have hSx : World.cell? v0 ⟨wr.heap.size + 1 + 1, 0, none⟩ = some (.int .u8 (d.kind : Int)) ∧ World.cell? v0 ⟨wr.heap.size + 1 + 1, 1, none⟩ = some (.int .u8 3) ∧ World.cell? v0 ⟨wr.heap.size + 1 + 1, 2, none⟩ = some (.int .u8 (d.mode : Int)) ∧ World.cell? v0 ⟨wr.heap.size + 1 + 1, 3, none⟩ = some (.slice d.read.a d.read.l.length d.read.c) ∧ World.cell? v0 ⟨wr.heap.size + 1 + 1, 4, none⟩ = some (.slice d.write.a d.write.l.length d.write.c) ∧ World.cell? v0 ⟨wr.heap.size + 1 + 1, 5, none⟩ = some (.slice d.faults.a d.faults.l.length d.faults.c) := ⟨HVx.out.cells 0 _ rfl, HVx.out.cells 1 _ rfl, HVx.out.cells 2 _ rfl, HVx.out.cells 3 _ rfl, HVx.out.cells 4 _ rfl, HVx.out.cells 5 _ rfl⟩
           refine hK.out _ _ hSx (fun hHeld => ?_)
           clear hK K hSx
           try simp only [Act.put,qk1,qk2,qk3,qk4,qk5,qk6]
           refine tkr 3 rfl (fun K hK => ?_)
           go_simp
           have HAnb : Hid (Rd (World.alloc v0 (.cells #[.string ⟨#[99, 48]⟩, .string ⟨#[99, 49]⟩] 9)) 1 (some ⟨(World.heap v0).size, 0, none⟩) 2 [.string ⟨#[99, 48]⟩, .string ⟨#[99, 49]⟩]) := hD (rd_new v0 1 2 [.string ⟨#[99, 48]⟩, .string ⟨#[99, 49]⟩] 9 rfl)
           have HLnb : Hid ((World.heap v0).size < (World.heap (World.alloc v0 (.cells #[.string ⟨#[99, 48]⟩, .string ⟨#[99, 49]⟩] 9))).size) := hD (by simp)
           have hbx := below_new v0 (.cells #[.string ⟨#[99, 48]⟩, .string ⟨#[99, 49]⟩] 9)
           have HDx := hD (HDx.out.below hbx)
           have HVx := hD (HVx.out.below hbx)
           have HOx := hD (HOx.out.below hbx)
           have HOx1 := hD (ownsRow_below HOx1.out hbx)
           clear hbx
           generalize World.alloc v0 (.cells #[.string ⟨#[99, 48]⟩, .string ⟨#[99, 49]⟩] 9) = v1 at HAnb HLnb HDx HVx HOx HOx1 ⊢
           generalize (World.heap v0).size = nb at HAnb HLnb ⊢
           have hS1 : World.cell? v1 ⟨wr.heap.size + 1 + 1, 0, none⟩ = some (.int .u8 (d.kind : Int)) ∧ World.cell? v1 ⟨wr.heap.size + 1 + 1, 1, none⟩ = some (.int .u8 3) ∧ World.cell? v1 ⟨wr.heap.size + 1 + 1, 2, none⟩ = some (.int .u8 (d.mode : Int)) ∧ World.cell? v1 ⟨wr.heap.size + 1 + 1, 3, none⟩ = some (.slice d.read.a d.read.l.length d.read.c) ∧ World.cell? v1 ⟨wr.heap.size + 1 + 1, 4, none⟩ = some (.slice d.write.a d.write.l.length d.write.c) ∧ World.cell? v1 ⟨wr.heap.size + 1 + 1, 5, none⟩ = some (.slice d.faults.a d.faults.l.length d.faults.c) := ⟨HVx.out.cells 0 _ rfl, HVx.out.cells 1 _ rfl, HVx.out.cells 2 _ rfl, HVx.out.cells 3 _ rfl, HVx.out.cells 4 _ rfl, HVx.out.cells 5 _ rfl⟩
           refine hK.out _ _ hS1 (fun hHeld => ?_)
           clear hK K
           try simp only [Act.put,qk1,qk2,qk3,qk4,qk5,qk6]
           refine takes [5] ?_
           refine tkr 6 rfl (fun K hK => ?_)
           obtain ⟨nm, hnm⟩ : ∃ nm, World.cell? v1 ⟨nb, j, none⟩ = some (.string nm) := two_at HAnb.out (by omega)
           have lnb := (two_lt HAnb.out)
           go_simp
           have hSx : World.cell? v1 ⟨wr.heap.size + 1 + 1, 0, none⟩ = some (.int .u8 (d.kind : Int)) ∧ World.cell? v1 ⟨wr.heap.size + 1 + 1, 1, none⟩ = some (.int .u8 3) ∧ World.cell? v1 ⟨wr.heap.size + 1 + 1, 2, none⟩ = some (.int .u8 (d.mode : Int)) ∧ World.cell? v1 ⟨wr.heap.size + 1 + 1, 3, none⟩ = some (.slice d.read.a d.read.l.length d.read.c) ∧ World.cell? v1 ⟨wr.heap.size + 1 + 1, 4, none⟩ = some (.slice d.write.a d.write.l.length d.write.c) ∧ World.cell? v1 ⟨wr.heap.size + 1 + 1, 5, none⟩ = some (.slice d.faults.a d.faults.l.length d.faults.c) := ⟨HVx.out.cells 0 _ rfl, HVx.out.cells 1 _ rfl, HVx.out.cells 2 _ rfl, HVx.out.cells 3 _ rfl, HVx.out.cells 4 _ rfl, HVx.out.cells 5 _ rfl⟩
           refine hK.out _ _ hSx (fun hHeld => ?_)
           clear hK K hSx
           try simp only [Act.put,qk1,qk2,qk3,qk4,qk5,qk6]
           refine tkr 7 rfl (fun K hK => ?_)
           go_simp
           go_at_call 23
           refine (of4_any ⟨d.kind, 3, d.mode, d.read, d.write, d.faults⟩ nm _ HOx.out.mode HOx.out.kind HOx.out.r1 HOx.out.u1 HOx.out.r2 HOx.out.u2 HOx.out.r3).mono ?_
           rintro e v2 ⟨⟨nm2, kk, mm, RA, RB, RC, a1, a2, a3, a4, a5, a6, rfl⟩, hs⟩
           have HDx := hD (HDx.out.below hs)
           have HVx := hD (HVx.out.below hs)
           have HOx := hD (HOx.out.below hs)
           have HOx1 := hD (ownsRow_below HOx1.out hs)
           clear hs
           go_wp2_with fail
           have hS2 : World.cell? v2 ⟨wr.heap.size + 1 + 1, 0, none⟩ = some (.int .u8 (d.kind : Int)) ∧ World.cell? v2 ⟨wr.heap.size + 1 + 1, 1, none⟩ = some (.int .u8 3) ∧ World.cell? v2 ⟨wr.heap.size + 1 + 1, 2, none⟩ = some (.int .u8 (d.mode : Int)) ∧ World.cell? v2 ⟨wr.heap.size + 1 + 1, 3, none⟩ = some (.slice d.read.a d.read.l.length d.read.c) ∧ World.cell? v2 ⟨wr.heap.size + 1 + 1, 4, none⟩ = some (.slice d.write.a d.write.l.length d.write.c) ∧ World.cell? v2 ⟨wr.heap.size + 1 + 1, 5, none⟩ = some (.slice d.faults.a d.faults.l.length d.faults.c) := ⟨HVx.out.cells 0 _ rfl, HVx.out.cells 1 _ rfl, HVx.out.cells 2 _ rfl, HVx.out.cells 3 _ rfl, HVx.out.cells 4 _ rfl, HVx.out.cells 5 _ rfl⟩
           refine hK.out _ _ hS2 (fun hHeld => ?_)
           clear hK K
           try simp only [Act.put,qk1,qk2,qk3,qk4,qk5,qk6]
           refine tkr 8 rfl (fun K hK => ?_)
           go_simp
           have HAnc : Hid (Rd (World.alloc v2 (.cells #[.string nm2, .int .i64 kk, .int .u16 mm, .slice RA a1 a2, .slice RB a3 a4, .slice RC a5 a6] 77)) 6 (some ⟨(World.heap v2).size, 0, none⟩) 1 [.string nm2, .int .i64 kk, .int .u16 mm, .slice RA a1 a2, .slice RB a3 a4, .slice RC a5 a6]) := hD (rd_new v2 6 1 [.string nm2, .int .i64 kk, .int .u16 mm, .slice RA a1 a2, .slice RB a3 a4, .slice RC a5 a6] 77 rfl)
           have HLnc : Hid ((World.heap v2).size < (World.heap (World.alloc v2 (.cells #[.string nm2, .int .i64 kk, .int .u16 mm, .slice RA a1 a2, .slice RB a3 a4, .slice RC a5 a6] 77))).size) := hD (by simp)
           have hbx := below_new v2 (.cells #[.string nm2, .int .i64 kk, .int .u16 mm, .slice RA a1 a2, .slice RB a3 a4, .slice RC a5 a6] 77)
           have HDx := hD (HDx.out.below hbx)
           have HVx := hD (HVx.out.below hbx)
           have HOx := hD (HOx.out.below hbx)
           have HOx1 := hD (ownsRow_below HOx1.out hbx)
           clear hbx
           generalize World.alloc v2 (.cells #[.string nm2, .int .i64 kk, .int .u16 mm, .slice RA a1 a2, .slice RB a3 a4, .slice RC a5 a6] 77) = v3 at HAnc HLnc HDx HVx HOx HOx1 ⊢
           generalize (World.heap v2).size = nc at HAnc HLnc ⊢
           have hS3 : World.cell? v3 ⟨wr.heap.size + 1 + 1, 0, none⟩ = some (.int .u8 (d.kind : Int)) ∧ World.cell? v3 ⟨wr.heap.size + 1 + 1, 1, none⟩ = some (.int .u8 3) ∧ World.cell? v3 ⟨wr.heap.size + 1 + 1, 2, none⟩ = some (.int .u8 (d.mode : Int)) ∧ World.cell? v3 ⟨wr.heap.size + 1 + 1, 3, none⟩ = some (.slice d.read.a d.read.l.length d.read.c) ∧ World.cell? v3 ⟨wr.heap.size + 1 + 1, 4, none⟩ = some (.slice d.write.a d.write.l.length d.write.c) ∧ World.cell? v3 ⟨wr.heap.size + 1 + 1, 5, none⟩ = some (.slice d.faults.a d.faults.l.length d.faults.c) := ⟨HVx.out.cells 0 _ rfl, HVx.out.cells 1 _ rfl, HVx.out.cells 2 _ rfl, HVx.out.cells 3 _ rfl, HVx.out.cells 4 _ rfl, HVx.out.cells 5 _ rfl⟩
           refine hK.out _ _ hS3 (fun hHeld => ?_)
           clear hK K
           try simp only [Act.put,qk1,qk2,qk3,qk4,qk5,qk6]
           refine tkr 9 rfl (fun K hK => ?_)
           refine step_apg elemCfg rfl _ _ (by rfl) (g + 1) (by rfl) HOx1.out (by rfl) HAnc.out (by simp [Value.oneCell']) (by omega) (by omega) (by have := HDx.out.dv.lt; omega) ?_
           intro A4 c4 v4 hown4 hg4
           have HO4 := hD hown4
           have HG4 := hD hg4
           have HVx : Hid (Vz v4 (wr.heap.size + 1 + 1) [.int .u8 (d.kind : Int), .int .u8 3, .int .u8 (d.mode : Int), .slice d.read.a d.read.l.length d.read.c, .slice d.write.a d.write.l.length d.write.c, .slice d.faults.a d.faults.l.length d.faults.c]) := hD (HVx.out.grown hg4 (fun e => by have := (HO1w.out.lt _ e).2; omega))
           have HDp := HDx
           have HOp := HOx1
           clear hown4 hg4
           have hS4 : World.cell? v4 ⟨wr.heap.size + 1 + 1, 0, none⟩ = some (.int .u8 (d.kind : Int)) ∧ World.cell? v4 ⟨wr.heap.size + 1 + 1, 1, none⟩ = some (.int .u8 3) ∧ World.cell? v4 ⟨wr.heap.size + 1 + 1, 2, none⟩ = some (.int .u8 (d.mode : Int)) ∧ World.cell? v4 ⟨wr.heap.size + 1 + 1, 3, none⟩ = some (.slice d.read.a d.read.l.length d.read.c) ∧ World.cell? v4 ⟨wr.heap.size + 1 + 1, 4, none⟩ = some (.slice d.write.a d.write.l.length d.write.c) ∧ World.cell? v4 ⟨wr.heap.size + 1 + 1, 5, none⟩ = some (.slice d.faults.a d.faults.l.length d.faults.c) := ⟨HVx.out.cells 0 _ rfl, HVx.out.cells 1 _ rfl, HVx.out.cells 2 _ rfl, HVx.out.cells 3 _ rfl, HVx.out.cells 4 _ rfl, HVx.out.cells 5 _ rfl⟩
           refine hK.out _ _ hS4 (fun hHeld => ?_)
           clear hK K
           try simp only [Act.put,qk1,qk2,qk3,qk4,qk5,qk6]
           refine takes [10] ?_
           refine tkr 11 rfl (fun K hK => ?_)
           have HDx := hD (HDp.out.row1 (Below.refl _ _) HOp.out HO4.out (by omega) HG4.out)
           have cz := (HG4.out.cell_far ⟨g, 3, none⟩ HDp.out.dv.lt (by simpa using fun e => by have := (HOp.out.lt g e.symm).1; omega)).trans (HDp.out.dv.cells 3 _ rfl)
           have fz := (HG4.out.frozen_far ⟨g, 3, none⟩ HDp.out.dv.lt (by simpa using fun e => by have := (HOp.out.lt g e.symm).1; omega)).trans (HDp.out.dv.free 3 (by simp))
           have lz : g < (World.heap v4).size := Nat.lt_of_lt_of_le HDp.out.dv.lt HG4.out.size
           go_simp
           have HVx := hD (HVx.out.grown (grown_set v4 ⟨g, 3, none⟩ (.slice A4 (n1 + 1) c4)) (by have := HD.out.dv.lt; simp; omega))
           clear cz fz lz
           generalize World.setCell v4 ⟨g, 3, none⟩ (.slice A4 (n1 + 1) c4) = v5 at HDx HVx ⊢
           have hS5 : World.cell? v5 ⟨wr.heap.size + 1 + 1, 0, none⟩ = some (.int .u8 (d.kind : Int)) ∧ World.cell? v5 ⟨wr.heap.size + 1 + 1, 1, none⟩ = some (.int .u8 3) ∧ World.cell? v5 ⟨wr.heap.size + 1 + 1, 2, none⟩ = some (.int .u8 (d.mode : Int)) ∧ World.cell? v5 ⟨wr.heap.size + 1 + 1, 3, none⟩ = some (.slice d.read.a d.read.l.length d.read.c) ∧ World.cell? v5 ⟨wr.heap.size + 1 + 1, 4, none⟩ = some (.slice d.write.a d.write.l.length d.write.c) ∧ World.cell? v5 ⟨wr.heap.size + 1 + 1, 5, none⟩ = some (.slice d.faults.a d.faults.l.length d.faults.c) := ⟨HVx.out.cells 0 _ rfl, HVx.out.cells 1 _ rfl, HVx.out.cells 2 _ rfl, HVx.out.cells 3 _ rfl, HVx.out.cells 4 _ rfl, HVx.out.cells 5 _ rfl⟩
           refine hK.out _ _ hS5 (fun hHeld => ?_)
           clear hK K
           try simp only [Act.put,qk1,qk2,qk3,qk4,qk5,qk6]
           refine wpAnyH_done (by kernel_rfl) ?_ _
           refine NoPanic.normal ?_
           go_wp2_with fail
           go_meet
           case rel => exact ⟨_, HDx.out⟩
         · go_simp
           have HAnb : Hid (Rd (World.alloc v0 (.cells #[.string ⟨#[99, 48]⟩, .string ⟨#[99, 49]⟩] 9)) 1 (some ⟨(World.heap v0).size, 0, none⟩) 2 [.string ⟨#[99, 48]⟩, .string ⟨#[99, 49]⟩]) := hD (rd_new v0 1 2 [.string ⟨#[99, 48]⟩, .string ⟨#[99, 49]⟩] 9 rfl)
           have HLnb : Hid ((World.heap v0).size < (World.heap (World.alloc v0 (.cells #[.string ⟨#[99, 48]⟩, .string ⟨#[99, 49]⟩] 9))).size) := hD (by simp)
           have hbx := below_new v0 (.cells #[.string ⟨#[99, 48]⟩, .string ⟨#[99, 49]⟩] 9)
           have HDx := hD (HDx.out.below hbx)
           have HVx := hD (HVx.out.below hbx)
           have HOx := hD (HOx.out.below hbx)
           have HOx1 := hD (ownsRow_below HOx1.out hbx)
           clear hbx
           generalize World.alloc v0 (.cells #[.string ⟨#[99, 48]⟩, .string ⟨#[99, 49]⟩] 9) = v1 at HAnb HLnb HDx HVx HOx HOx1 ⊢
           generalize (World.heap v0).size = nb at HAnb HLnb ⊢
           have hS1 : World.cell? v1 ⟨wr.heap.size + 1 + 1, 0, none⟩ = some (.int .u8 (d.kind : Int)) ∧ World.cell? v1 ⟨wr.heap.size + 1 + 1, 1, none⟩ = some (.int .u8 3) ∧ World.cell? v1 ⟨wr.heap.size + 1 + 1, 2, none⟩ = some (.int .u8 (d.mode : Int)) ∧ World.cell? v1 ⟨wr.heap.size + 1 + 1, 3, none⟩ = some (.slice d.read.a d.read.l.length d.read.c) ∧ World.cell? v1 ⟨wr.heap.size + 1 + 1, 4, none⟩ = some (.slice d.write.a d.write.l.length d.write.c) ∧ World.cell? v1 ⟨wr.heap.size + 1 + 1, 5, none⟩ = some (.slice d.faults.a d.faults.l.length d.faults.c) := ⟨HVx.out.cells 0 _ rfl, HVx.out.cells 1 _ rfl, HVx.out.cells 2 _ rfl, HVx.out.cells 3 _ rfl, HVx.out.cells 4 _ rfl, HVx.out.cells 5 _ rfl⟩
           refine hK.out _ _ hS1 (fun hHeld => ?_)
           clear hK K
           try simp only [Act.put,qk1,qk2,qk3,qk4,qk5,qk6]
           refine takes [5] ?_
           refine wpAnyH_ready (rs := [1, 6]) (by kernel_rfl) (by simp) ?_
           refine AllReadyH.cons (o := _) rfl (fun K hK => ?_) (AllReadyH.cons (o := _) rfl (fun K hK => ?_) AllReadyH.nil)
           · have ca := HDx.out.dv.cells 3 _ rfl
             have la := HDx.out.dv.lt
             go_simp
             clear ca la
             have hSx : World.cell? v1 ⟨wr.heap.size + 1 + 1, 0, none⟩ = some (.int .u8 (d.kind : Int)) ∧ World.cell? v1 ⟨wr.heap.size + 1 + 1, 1, none⟩ = some (.int .u8 3) ∧ World.cell? v1 ⟨wr.heap.size + 1 + 1, 2, none⟩ = some (.int .u8 (d.mode : Int)) ∧ World.cell? v1 ⟨wr.heap.size + 1 + 1, 3, none⟩ = some (.slice d.read.a d.read.l.length d.read.c) ∧ World.cell? v1 ⟨wr.heap.size + 1 + 1, 4, none⟩ = some (.slice d.write.a d.write.l.length d.write.c) ∧ World.cell? v1 ⟨wr.heap.size + 1 + 1, 5, none⟩ = some (.slice d.faults.a d.faults.l.length d.faults.c) := ⟨HVx.out.cells 0 _ rfl, HVx.out.cells 1 _ rfl, HVx.out.cells 2 _ rfl, HVx.out.cells 3 _ rfl, HVx.out.cells 4 _ rfl, HVx.out.cells 5 _ rfl⟩
             refine hK.out _ _ hSx (fun hHeld => ?_)
             clear hK K hSx
             try simp only [Act.put,qk1,qk2,qk3,qk4,qk5,qk6]
             refine tkr 6 rfl (fun K hK => ?_)
             obtain ⟨nm, hnm⟩ : ∃ nm, World.cell? v1 ⟨nb, j, none⟩ = some (.string nm) := two_at HAnb.out (by omega)
             have lnb := (two_lt HAnb.out)
             go_simp
             have hSx : World.cell? v1 ⟨wr.heap.size + 1 + 1, 0, none⟩ = some (.int .u8 (d.kind : Int)) ∧ World.cell? v1 ⟨wr.heap.size + 1 + 1, 1, none⟩ = some (.int .u8 3) ∧ World.cell? v1 ⟨wr.heap.size + 1 + 1, 2, none⟩ = some (.int .u8 (d.mode : Int)) ∧ World.cell? v1 ⟨wr.heap.size + 1 + 1, 3, none⟩ = some (.slice d.read.a d.read.l.length d.read.c) ∧ World.cell? v1 ⟨wr.heap.size + 1 + 1, 4, none⟩ = some (.slice d.write.a d.write.l.length d.write.c) ∧ World.cell? v1 ⟨wr.heap.size + 1 + 1, 5, none⟩ = some (.slice d.faults.a d.faults.l.length d.faults.c) := ⟨HVx.out.cells 0 _ rfl, HVx.out.cells 1 _ rfl, HVx.out.cells 2 _ rfl, HVx.out.cells 3 _ rfl, HVx.out.cells 4 _ rfl, HVx.out.cells 5 _ rfl⟩
             refine hK.out _ _ hSx (fun hHeld => ?_)
             clear hK K hSx
             try simp only [Act.put,qk1,qk2,qk3,qk4,qk5,qk6]
             refine tkr 7 rfl (fun K hK => ?_)
             go_simp
             go_at_call 23
             refine (of4_any ⟨d.kind, 3, d.mode, d.read, d.write, d.faults⟩ nm _ HOx.out.mode HOx.out.kind HOx.out.r1 HOx.out.u1 HOx.out.r2 HOx.out.u2 HOx.out.r3).mono ?_
             rintro e v2 ⟨⟨nm2, kk, mm, RA, RB, RC, a1, a2, a3, a4, a5, a6, rfl⟩, hs⟩
             have HDx := hD (HDx.out.below hs)
             have HVx := hD (HVx.out.below hs)
             have HOx := hD (HOx.out.below hs)
             have HOx1 := hD (ownsRow_below HOx1.out hs)
             clear hs
             go_wp2_with fail
             have hS2 : World.cell? v2 ⟨wr.heap.size + 1 + 1, 0, none⟩ = some (.int .u8 (d.kind : Int)) ∧ World.cell? v2 ⟨wr.heap.size + 1 + 1, 1, none⟩ = some (.int .u8 3) ∧ World.cell? v2 ⟨wr.heap.size + 1 + 1, 2, none⟩ = some (.int .u8 (d.mode : Int)) ∧ World.cell? v2 ⟨wr.heap.size + 1 + 1, 3, none⟩ = some (.slice d.read.a d.read.l.length d.read.c) ∧ World.cell? v2 ⟨wr.heap.size + 1 + 1, 4, none⟩ = some (.slice d.write.a d.write.l.length d.write.c) ∧ World.cell? v2 ⟨wr.heap.size + 1 + 1, 5, none⟩ = some (.slice d.faults.a d.faults.l.length d.faults.c) := ⟨HVx.out.cells 0 _ rfl, HVx.out.cells 1 _ rfl, HVx.out.cells 2 _ rfl, HVx.out.cells 3 _ rfl, HVx.out.cells 4 _ rfl, HVx.out.cells 5 _ rfl⟩
             refine hK.out _ _ hS2 (fun hHeld => ?_)
             clear hK K
             try simp only [Act.put,qk1,qk2,qk3,qk4,qk5,qk6]
             refine tkr 8 rfl (fun K hK => ?_)
             go_simp
             have HAnc : Hid (Rd (World.alloc v2 (.cells #[.string nm2, .int .i64 kk, .int .u16 mm, .slice RA a1 a2, .slice RB a3 a4, .slice RC a5 a6] 77)) 6 (some ⟨(World.heap v2).size, 0, none⟩) 1 [.string nm2, .int .i64 kk, .int .u16 mm, .slice RA a1 a2, .slice RB a3 a4, .slice RC a5 a6]) := hD (rd_new v2 6 1 [.string nm2, .int .i64 kk, .int .u16 mm, .slice RA a1 a2, .slice RB a3 a4, .slice RC a5 a6] 77 rfl)
             have HLnc : Hid ((World.heap v2).size < (World.heap (World.alloc v2 (.cells #[.string nm2, .int .i64 kk, .int .u16 mm, .slice RA a1 a2, .slice RB a3 a4, .slice RC a5 a6] 77))).size) := hD (by simp)
             have hbx := below_new v2 (.cells #[.string nm2, .int .i64 kk, .int .u16 mm, .slice RA a1 a2, .slice RB a3 a4, .slice RC a5 a6] 77)
             have HDx := hD (HDx.out.below hbx)
             have HVx := hD (HVx.out.below hbx)
             have HOx := hD (HOx.out.below hbx)
             have HOx1 := hD (ownsRow_below HOx1.out hbx)
             clear hbx
             generalize World.alloc v2 (.cells #[.string nm2, .int .i64 kk, .int .u16 mm, .slice RA a1 a2, .slice RB a3 a4, .slice RC a5 a6] 77) = v3 at HAnc HLnc HDx HVx HOx HOx1 ⊢
             generalize (World.heap v2).size = nc at HAnc HLnc ⊢
             have hS3 : World.cell? v3 ⟨wr.heap.size + 1 + 1, 0, none⟩ = some (.int .u8 (d.kind : Int)) ∧ World.cell? v3 ⟨wr.heap.size + 1 + 1, 1, none⟩ = some (.int .u8 3) ∧ World.cell? v3 ⟨wr.heap.size + 1 + 1, 2, none⟩ = some (.int .u8 (d.mode : Int)) ∧ World.cell? v3 ⟨wr.heap.size + 1 + 1, 3, none⟩ = some (.slice d.read.a d.read.l.length d.read.c) ∧ World.cell? v3 ⟨wr.heap.size + 1 + 1, 4, none⟩ = some (.slice d.write.a d.write.l.length d.write.c) ∧ World.cell? v3 ⟨wr.heap.size + 1 + 1, 5, none⟩ = some (.slice d.faults.a d.faults.l.length d.faults.c) := ⟨HVx.out.cells 0 _ rfl, HVx.out.cells 1 _ rfl, HVx.out.cells 2 _ rfl, HVx.out.cells 3 _ rfl, HVx.out.cells 4 _ rfl, HVx.out.cells 5 _ rfl⟩
             refine hK.out _ _ hS3 (fun hHeld => ?_)
             clear hK K
             try simp only [Act.put,qk1,qk2,qk3,qk4,qk5,qk6]
             refine tkr 9 rfl (fun K hK => ?_)
             refine step_apg elemCfg rfl _ _ (by rfl) (g + 1) (by rfl) HOx1.out (by rfl) HAnc.out (by simp [Value.oneCell']) (by omega) (by omega) (by have := HDx.out.dv.lt; omega) ?_
             intro A4 c4 v4 hown4 hg4
             have HO4 := hD hown4
             have HG4 := hD hg4
             have HVx : Hid (Vz v4 (wr.heap.size + 1 + 1) [.int .u8 (d.kind : Int), .int .u8 3, .int .u8 (d.mode : Int), .slice d.read.a d.read.l.length d.read.c, .slice d.write.a d.write.l.length d.write.c, .slice d.faults.a d.faults.l.length d.faults.c]) := hD (HVx.out.grown hg4 (fun e => by have := (HO1w.out.lt _ e).2; omega))
             have HDp := HDx
             have HOp := HOx1
             clear hown4 hg4
             have hS4 : World.cell? v4 ⟨wr.heap.size + 1 + 1, 0, none⟩ = some (.int .u8 (d.kind : Int)) ∧ World.cell? v4 ⟨wr.heap.size + 1 + 1, 1, none⟩ = some (.int .u8 3) ∧ World.cell? v4 ⟨wr.heap.size + 1 + 1, 2, none⟩ = some (.int .u8 (d.mode : Int)) ∧ World.cell? v4 ⟨wr.heap.size + 1 + 1, 3, none⟩ = some (.slice d.read.a d.read.l.length d.read.c) ∧ World.cell? v4 ⟨wr.heap.size + 1 + 1, 4, none⟩ = some (.slice d.write.a d.write.l.length d.write.c) ∧ World.cell? v4 ⟨wr.heap.size + 1 + 1, 5, none⟩ = some (.slice d.faults.a d.faults.l.length d.faults.c) := ⟨HVx.out.cells 0 _ rfl, HVx.out.cells 1 _ rfl, HVx.out.cells 2 _ rfl, HVx.out.cells 3 _ rfl, HVx.out.cells 4 _ rfl, HVx.out.cells 5 _ rfl⟩
             refine hK.out _ _ hS4 (fun hHeld => ?_)
             clear hK K
             try simp only [Act.put,qk1,qk2,qk3,qk4,qk5,qk6]
             refine takes [10] ?_
             refine tkr 11 rfl (fun K hK => ?_)
             have HDx := hD (HDp.out.row1 (Below.refl _ _) HOp.out HO4.out (by omega) HG4.out)
             have cz := (HG4.out.cell_far ⟨g, 3, none⟩ HDp.out.dv.lt (by simpa using fun e => by have := (HOp.out.lt g e.symm).1; omega)).trans (HDp.out.dv.cells 3 _ rfl)
             have fz := (HG4.out.frozen_far ⟨g, 3, none⟩ HDp.out.dv.lt (by simpa using fun e => by have := (HOp.out.lt g e.symm).1; omega)).trans (HDp.out.dv.free 3 (by simp))
             have lz : g < (World.heap v4).size := Nat.lt_of_lt_of_le HDp.out.dv.lt HG4.out.size
             go_simp
             have HVx := hD (HVx.out.grown (grown_set v4 ⟨g, 3, none⟩ (.slice A4 (n1 + 1) c4)) (by have := HD.out.dv.lt; simp; omega))
             clear cz fz lz
             generalize World.setCell v4 ⟨g, 3, none⟩ (.slice A4 (n1 + 1) c4) = v5 at HDx HVx ⊢
             have hS5 : World.cell? v5 ⟨wr.heap.size + 1 + 1, 0, none⟩ = some (.int .u8 (d.kind : Int)) ∧ World.cell? v5 ⟨wr.heap.size + 1 + 1, 1, none⟩ = some (.int .u8 3) ∧ World.cell? v5 ⟨wr.heap.size + 1 + 1, 2, none⟩ = some (.int .u8 (d.mode : Int)) ∧ World.cell? v5 ⟨wr.heap.size + 1 + 1, 3, none⟩ = some (.slice d.read.a d.read.l.length d.read.c) ∧ World.cell? v5 ⟨wr.heap.size + 1 + 1, 4, none⟩ = some (.slice d.write.a d.write.l.length d.write.c) ∧ World.cell? v5 ⟨wr.heap.size + 1 + 1, 5, none⟩ = some (.slice d.faults.a d.faults.l.length d.faults.c) := ⟨HVx.out.cells 0 _ rfl, HVx.out.cells 1 _ rfl, HVx.out.cells 2 _ rfl, HVx.out.cells 3 _ rfl, HVx.out.cells 4 _ rfl, HVx.out.cells 5 _ rfl⟩
             refine hK.out _ _ hS5 (fun hHeld => ?_)
             clear hK K
             try simp only [Act.put,qk1,qk2,qk3,qk4,qk5,qk6]
             refine wpAnyH_done (by kernel_rfl) ?_ _
             refine NoPanic.normal ?_
             go_wp2_with fail
             go_meet
             case rel => exact ⟨_, HDx.out⟩
           · obtain ⟨nm, hnm⟩ : ∃ nm, World.cell? v1 ⟨nb, j, none⟩ = some (.string nm) := two_at HAnb.out (by omega)
             have lnb := (two_lt HAnb.out)
             go_simp
             have hSx : World.cell? v1 ⟨wr.heap.size + 1 + 1, 0, none⟩ = some (.int .u8 (d.kind : Int)) ∧ World.cell? v1 ⟨wr.heap.size + 1 + 1, 1, none⟩ = some (.int .u8 3) ∧ World.cell? v1 ⟨wr.heap.size + 1 + 1, 2, none⟩ = some (.int .u8 (d.mode : Int)) ∧ World.cell? v1 ⟨wr.heap.size + 1 + 1, 3, none⟩ = some (.slice d.read.a d.read.l.length d.read.c) ∧ World.cell? v1 ⟨wr.heap.size + 1 + 1, 4, none⟩ = some (.slice d.write.a d.write.l.length d.write.c) ∧ World.cell? v1 ⟨wr.heap.size + 1 + 1, 5, none⟩ = some (.slice d.faults.a d.faults.l.length d.faults.c) := ⟨HVx.out.cells 0 _ rfl, HVx.out.cells 1 _ rfl, HVx.out.cells 2 _ rfl, HVx.out.cells 3 _ rfl, HVx.out.cells 4 _ rfl, HVx.out.cells 5 _ rfl⟩
             refine hK.out _ _ hSx (fun hHeld => ?_)
             clear hK K hSx
             try simp only [Act.put,qk1,qk2,qk3,qk4,qk5,qk6]
             refine wpAnyH_ready (rs := [1, 7]) (by kernel_rfl) (by simp) ?_
             refine AllReadyH.cons (o := _) rfl (fun K hK => ?_) (AllReadyH.cons (o := _) rfl (fun K hK => ?_) AllReadyH.nil)
             · have ca := HDx.out.dv.cells 3 _ rfl
               have la := HDx.out.dv.lt
               go_simp
               clear ca la
               have hSx : World.cell? v1 ⟨wr.heap.size + 1 + 1, 0, none⟩ = some (.int .u8 (d.kind : Int)) ∧ World.cell? v1 ⟨wr.heap.size + 1 + 1, 1, none⟩ = some (.int .u8 3) ∧ World.cell? v1 ⟨wr.heap.size + 1 + 1, 2, none⟩ = some (.int .u8 (d.mode : Int)) ∧ World.cell? v1 ⟨wr.heap.size + 1 + 1, 3, none⟩ = some (.slice d.read.a d.read.l.length d.read.c) ∧ World.cell? v1 ⟨wr.heap.size + 1 + 1, 4, none⟩ = some (.slice d.write.a d.write.l.length d.write.c) ∧ World.cell? v1 ⟨wr.heap.size + 1 + 1, 5, none⟩ = some (.slice d.faults.a d.faults.l.length d.faults.c) := ⟨HVx.out.cells 0 _ rfl, HVx.out.cells 1 _ rfl, HVx.out.cells 2 _ rfl, HVx.out.cells 3 _ rfl, HVx.out.cells 4 _ rfl, HVx.out.cells 5 _ rfl⟩
               refine hK.out _ _ hSx (fun hHeld => ?_)
               clear hK K hSx
               try simp only [Act.put,qk1,qk2,qk3,qk4,qk5,qk6]
               refine tkr 7 rfl (fun K hK => ?_)
               go_simp
               go_at_call 23
               refine (of4_any ⟨d.kind, 3, d.mode, d.read, d.write, d.faults⟩ nm _ HOx.out.mode HOx.out.kind HOx.out.r1 HOx.out.u1 HOx.out.r2 HOx.out.u2 HOx.out.r3).mono ?_
               rintro e v2 ⟨⟨nm2, kk, mm, RA, RB, RC, a1, a2, a3, a4, a5, a6, rfl⟩, hs⟩
               have HDx := hD (HDx.out.below hs)
               have HVx := hD (HVx.out.below hs)
               have HOx := hD (HOx.out.below hs)
               have HOx1 := hD (ownsRow_below HOx1.out hs)
               clear hs
               go_wp2_with fail
               have hS2 : World.cell? v2 ⟨wr.heap.size + 1 + 1, 0, none⟩ = some (.int .u8 (d.kind : Int)) ∧ World.cell? v2 ⟨wr.heap.size + 1 + 1, 1, none⟩ = some (.int .u8 3) ∧ World.cell? v2 ⟨wr.heap.size + 1 + 1, 2, none⟩ = some (.int .u8 (d.mode : Int)) ∧ World.cell? v2 ⟨wr.heap.size + 1 + 1, 3, none⟩ = some (.slice d.read.a d.read.l.length d.read.c) ∧ World.cell? v2 ⟨wr.heap.size + 1 + 1, 4, none⟩ = some (.slice d.write.a d.write.l.length d.write.c) ∧ World.cell? v2 ⟨wr.heap.size + 1 + 1, 5, none⟩ = some (.slice d.faults.a d.faults.l.length d.faults.c) := ⟨HVx.out.cells 0 _ rfl, HVx.out.cells 1 _ rfl, HVx.out.cells 2 _ rfl, HVx.out.cells 3 _ rfl, HVx.out.cells 4 _ rfl, HVx.out.cells 5 _ rfl⟩
               refine hK.out _ _ hS2 (fun hHeld => ?_)
               clear hK K
               try simp only [Act.put,qk1,qk2,qk3,qk4,qk5,qk6]
               refine tkr 8 rfl (fun K hK => ?_)
               go_simp
               have HAnc : Hid (Rd (World.alloc v2 (.cells #[.string nm2, .int .i64 kk, .int .u16 mm, .slice RA a1 a2, .slice RB a3 a4, .slice RC a5 a6] 77)) 6 (some ⟨(World.heap v2).size, 0, none⟩) 1 [.string nm2, .int .i64 kk, .int .u16 mm, .slice RA a1 a2, .slice RB a3 a4, .slice RC a5 a6]) := hD (rd_new v2 6 1 [.string nm2, .int .i64 kk, .int .u16 mm, .slice RA a1 a2, .slice RB a3 a4, .slice RC a5 a6] 77 rfl)
               have HLnc : Hid ((World.heap v2).size < (World.heap (World.alloc v2 (.cells #[.string nm2, .int .i64 kk, .int .u16 mm, .slice RA a1 a2, .slice RB a3 a4, .slice RC a5 a6] 77))).size) := hD (by simp)
               have hbx := below_new v2 (.cells #[.string nm2, .int .i64 kk, .int .u16 mm, .slice RA a1 a2, .slice RB a3 a4, .slice RC a5 a6] 77)
               have HDx := hD (HDx.out.below hbx)
               have HVx := hD (HVx.out.below hbx)
               have HOx := hD (HOx.out.below hbx)
               have HOx1 := hD (ownsRow_below HOx1.out hbx)
               clear hbx
               generalize World.alloc v2 (.cells #[.string nm2, .int .i64 kk, .int .u16 mm, .slice RA a1 a2, .slice RB a3 a4, .slice RC a5 a6] 77) = v3 at HAnc HLnc HDx HVx HOx HOx1 ⊢
               generalize (World.heap v2).size = nc at HAnc HLnc ⊢
               have hS3 : World.cell? v3 ⟨wr.heap.size + 1 + 1, 0, none⟩ = some (.int .u8 (d.kind : Int)) ∧ World.cell? v3 ⟨wr.heap.size + 1 + 1, 1, none⟩ = some (.int .u8 3) ∧ World.cell? v3 ⟨wr.heap.size + 1 + 1, 2, none⟩ = some (.int .u8 (d.mode : Int)) ∧ World.cell? v3 ⟨wr.heap.size + 1 + 1, 3, none⟩ = some (.slice d.read.a d.read.l.length d.read.c) ∧ World.cell? v3 ⟨wr.heap.size + 1 + 1, 4, none⟩ = some (.slice d.write.a d.write.l.length d.write.c) ∧ World.cell? v3 ⟨wr.heap.size + 1 + 1, 5, none⟩ = some (.slice d.faults.a d.faults.l.length d.faults.c) := ⟨HVx.out.cells 0 _ rfl, HVx.out.cells 1 _ rfl, HVx.out.cells 2 _ rfl, HVx.out.cells 3 _ rfl, HVx.out.cells 4 _ rfl, HVx.out.cells 5 _ rfl⟩
               refine hK.out _ _ hS3 (fun hHeld => ?_)
               clear hK K
               try simp only [Act.put,qk1,qk2,qk3,qk4,qk5,qk6]
               refine tkr 9 rfl (fun K hK => ?_)
               refine step_apg elemCfg rfl _ _ (by rfl) (g + 1) (by rfl) HOx1.out (by rfl) HAnc.out (by simp [Value.oneCell']) (by omega) (by omega) (by have := HDx.out.dv.lt; omega) ?_
               intro A4 c4 v4 hown4 hg4
               have HO4 := hD hown4
               have HG4 := hD hg4
               have HVx : Hid (Vz v4 (wr.heap.size + 1 + 1) [.int .u8 (d.kind : Int), .int .u8 3, .int .u8 (d.mode : Int), .slice d.read.a d.read.l.length d.read.c, .slice d.write.a d.write.l.length d.write.c, .slice d.faults.a d.faults.l.length d.faults.c]) := hD (HVx.out.grown hg4 (fun e => by have := (HO1w.out.lt _ e).2; omega))
               have HDp := HDx
               have HOp := HOx1
               clear hown4 hg4
               have hS4 : World.cell? v4 ⟨wr.heap.size + 1 + 1, 0, none⟩ = some (.int .u8 (d.kind : Int)) ∧ World.cell? v4 ⟨wr.heap.size + 1 + 1, 1, none⟩ = some (.int .u8 3) ∧ World.cell? v4 ⟨wr.heap.size + 1 + 1, 2, none⟩ = some (.int .u8 (d.mode : Int)) ∧ World.cell? v4 ⟨wr.heap.size + 1 + 1, 3, none⟩ = some (.slice d.read.a d.read.l.length d.read.c) ∧ World.cell? v4 ⟨wr.heap.size + 1 + 1, 4, none⟩ = some (.slice d.write.a d.write.l.length d.write.c) ∧ World.cell? v4 ⟨wr.heap.size + 1 + 1, 5, none⟩ = some (.slice d.faults.a d.faults.l.length d.faults.c) := ⟨HVx.out.cells 0 _ rfl, HVx.out.cells 1 _ rfl, HVx.out.cells 2 _ rfl, HVx.out.cells 3 _ rfl, HVx.out.cells 4 _ rfl, HVx.out.cells 5 _ rfl⟩
               refine hK.out _ _ hS4 (fun hHeld => ?_)
               clear hK K
               try simp only [Act.put,qk1,qk2,qk3,qk4,qk5,qk6]
               refine takes [10] ?_
               refine tkr 11 rfl (fun K hK => ?_)
               have HDx := hD (HDp.out.row1 (Below.refl _ _) HOp.out HO4.out (by omega) HG4.out)
               have cz := (HG4.out.cell_far ⟨g, 3, none⟩ HDp.out.dv.lt (by simpa using fun e => by have := (HOp.out.lt g e.symm).1; omega)).trans (HDp.out.dv.cells 3 _ rfl)
               have fz := (HG4.out.frozen_far ⟨g, 3, none⟩ HDp.out.dv.lt (by simpa using fun e => by have := (HOp.out.lt g e.symm).1; omega)).trans (HDp.out.dv.free 3 (by simp))
               have lz : g < (World.heap v4).size := Nat.lt_of_lt_of_le HDp.out.dv.lt HG4.out.size
               go_simp
               have HVx := hD (HVx.out.grown (grown_set v4 ⟨g, 3, none⟩ (.slice A4 (n1 + 1) c4)) (by have := HD.out.dv.lt; simp; omega))
               clear cz fz lz
               generalize World.setCell v4 ⟨g, 3, none⟩ (.slice A4 (n1 + 1) c4) = v5 at HDx HVx ⊢
               have hS5 : World.cell? v5 ⟨wr.heap.size + 1 + 1, 0, none⟩ = some (.int .u8 (d.kind : Int)) ∧ World.cell? v5 ⟨wr.heap.size + 1 + 1, 1, none⟩ = some (.int .u8 3) ∧ World.cell? v5 ⟨wr.heap.size + 1 + 1, 2, none⟩ = some (.int .u8 (d.mode : Int)) ∧ World.cell? v5 ⟨wr.heap.size + 1 + 1, 3, none⟩ = some (.slice d.read.a d.read.l.length d.read.c) ∧ World.cell? v5 ⟨wr.heap.size + 1 + 1, 4, none⟩ = some (.slice d.write.a d.write.l.length d.write.c) ∧ World.cell? v5 ⟨wr.heap.size + 1 + 1, 5, none⟩ = some (.slice d.faults.a d.faults.l.length d.faults.c) := ⟨HVx.out.cells 0 _ rfl, HVx.out.cells 1 _ rfl, HVx.out.cells 2 _ rfl, HVx.out.cells 3 _ rfl, HVx.out.cells 4 _ rfl, HVx.out.cells 5 _ rfl⟩
               refine hK.out _ _ hS5 (fun hHeld => ?_)
               clear hK K
               try simp only [Act.put,qk1,qk2,qk3,qk4,qk5,qk6]
               refine wpAnyH_done (by kernel_rfl) ?_ _
               refine NoPanic.normal ?_
               go_wp2_with fail
               go_meet
               case rel => exact ⟨_, HDx.out⟩
             · go_simp
               go_at_call 23
               refine (of4_any ⟨d.kind, 3, d.mode, d.read, d.write, d.faults⟩ nm _ HOx.out.mode HOx.out.kind HOx.out.r1 HOx.out.u1 HOx.out.r2 HOx.out.u2 HOx.out.r3).mono ?_
               rintro e v2 ⟨⟨nm2, kk, mm, RA, RB, RC, a1, a2, a3, a4, a5, a6, rfl⟩, hs⟩
               have HDx := hD (HDx.out.below hs)
               have HVx := hD (HVx.out.below hs)
               have HOx := hD (HOx.out.below hs)
               have HOx1 := hD (ownsRow_below HOx1.out hs)
               clear hs
               go_wp2_with fail
               have hS2 : World.cell? v2 ⟨wr.heap.size + 1 + 1, 0, none⟩ = some (.int .u8 (d.kind : Int)) ∧ World.cell? v2 ⟨wr.heap.size + 1 + 1, 1, none⟩ = some (.int .u8 3) ∧ World.cell? v2 ⟨wr.heap.size + 1 + 1, 2, none⟩ = some (.int .u8 (d.mode : Int)) ∧ World.cell? v2 ⟨wr.heap.size + 1 + 1, 3, none⟩ = some (.slice d.read.a d.read.l.length d.read.c) ∧ World.cell? v2 ⟨wr.heap.size + 1 + 1, 4, none⟩ = some (.slice d.write.a d.write.l.length d.write.c) ∧ World.cell? v2 ⟨wr.heap.size + 1 + 1, 5, none⟩ = some (.slice d.faults.a d.faults.l.length d.faults.c) := ⟨HVx.out.cells 0 _ rfl, HVx.out.cells 1 _ rfl, HVx.out.cells 2 _ rfl, HVx.out.cells 3 _ rfl, HVx.out.cells 4 _ rfl, HVx.out.cells 5 _ rfl⟩
               refine hK.out _ _ hS2 (fun hHeld => ?_)
               clear hK K
               try simp only [Act.put,qk1,qk2,qk3,qk4,qk5,qk6]
               refine wpAnyH_ready (rs := [1, 8]) (by kernel_rfl) (by simp) ?_
               refine AllReadyH.cons (o := _) rfl (fun K hK => ?_) (AllReadyH.cons (o := _) rfl (fun K hK => ?_) AllReadyH.nil)
               · have ca := HDx.out.dv.cells 3 _ rfl
                 have la := HDx.out.dv.lt
                 go_simp
                 clear ca la
                 have hSx : World.cell? v2 ⟨wr.heap.size + 1 + 1, 0, none⟩ = some (.int .u8 (d.kind : Int)) ∧ World.cell? v2 ⟨wr.heap.size + 1 + 1, 1, none⟩ = some (.int .u8 3) ∧ World.cell? v2 ⟨wr.heap.size + 1 + 1, 2, none⟩ = some (.int .u8 (d.mode : Int)) ∧ World.cell? v2 ⟨wr.heap.size + 1 + 1, 3, none⟩ = some (.slice d.read.a d.read.l.length d.read.c) ∧ World.cell? v2 ⟨wr.heap.size + 1 + 1, 4, none⟩ = some (.slice d.write.a d.write.l.length d.write.c) ∧ World.cell? v2 ⟨wr.heap.size + 1 + 1, 5, none⟩ = some (.slice d.faults.a d.faults.l.length d.faults.c) := ⟨HVx.out.cells 0 _ rfl, HVx.out.cells 1 _ rfl, HVx.out.cells 2 _ rfl, HVx.out.cells 3 _ rfl, HVx.out.cells 4 _ rfl, HVx.out.cells 5 _ rfl⟩
                 refine hK.out _ _ hSx (fun hHeld => ?_)
                 clear hK K hSx
                 try simp only [Act.put,qk1,qk2,qk3,qk4,qk5,qk6]
                 refine tkr 8 rfl (fun K hK => ?_)
                 go_simp
                 have HAnc : Hid (Rd (World.alloc v2 (.cells #[.string nm2, .int .i64 kk, .int .u16 mm, .slice RA a1 a2, .slice RB a3 a4, .slice RC a5 a6] 77)) 6 (some ⟨(World.heap v2).size, 0, none⟩) 1 [.string nm2, .int .i64 kk, .int .u16 mm, .slice RA a1 a2, .slice RB a3 a4, .slice RC a5 a6]) := hD (rd_new v2 6 1 [.string nm2, .int .i64 kk, .int .u16 mm, .slice RA a1 a2, .slice RB a3 a4, .slice RC a5 a6] 77 rfl)
                 have HLnc : Hid ((World.heap v2).size < (World.heap (World.alloc v2 (.cells #[.string nm2, .int .i64 kk, .int .u16 mm, .slice RA a1 a2, .slice RB a3 a4, .slice RC a5 a6] 77))).size) := hD (by simp)
                 have hbx := below_new v2 (.cells #[.string nm2, .int .i64 kk, .int .u16 mm, .slice RA a1 a2, .slice RB a3 a4, .slice RC a5 a6] 77)
                 have HDx := hD (HDx.out.below hbx)
                 have HVx := hD (HVx.out.below hbx)
                 have HOx := hD (HOx.out.below hbx)
                 have HOx1 := hD (ownsRow_below HOx1.out hbx)
                 clear hbx
                 generalize World.alloc v2 (.cells #[.string nm2, .int .i64 kk, .int .u16 mm, .slice RA a1 a2, .slice RB a3 a4, .slice RC a5 a6] 77) = v3 at HAnc HLnc HDx HVx HOx HOx1 ⊢
                 generalize (World.heap v2).size = nc at HAnc HLnc ⊢
                 have hS3 : World.cell? v3 ⟨wr.heap.size + 1 + 1, 0, none⟩ = some (.int .u8 (d.kind : Int)) ∧ World.cell? v3 ⟨wr.heap.size + 1 + 1, 1, none⟩ = some (.int .u8 3) ∧ World.cell? v3 ⟨wr.heap.size + 1 + 1, 2, none⟩ = some (.int .u8 (d.mode : Int)) ∧ World.cell? v3 ⟨wr.heap.size + 1 + 1, 3, none⟩ = some (.slice d.read.a d.read.l.length d.read.c) ∧ World.cell? v3 ⟨wr.heap.size + 1 + 1, 4, none⟩ = some (.slice d.write.a d.write.l.length d.write.c) ∧ World.cell? v3 ⟨wr.heap.size + 1 + 1, 5, none⟩ = some (.slice d.faults.a d.faults.l.length d.faults.c) := ⟨HVx.out.cells 0 _ rfl, HVx.out.cells 1 _ rfl, HVx.out.cells 2 _ rfl, HVx.out.cells 3 _ rfl, HVx.out.cells 4 _ rfl, HVx.out.cells 5 _ rfl⟩
                 refine hK.out _ _ hS3 (fun hHeld => ?_)
                 clear hK K
                 try simp only [Act.put,qk1,qk2,qk3,qk4,qk5,qk6]
                 refine tkr 9 rfl (fun K hK => ?_)
                 refine step_apg elemCfg rfl _ _ (by rfl) (g + 1) (by rfl) HOx1.out (by rfl) HAnc.out (by simp [Value.oneCell']) (by omega) (by omega) (by have := HDx.out.dv.lt; omega) ?_
                 intro A4 c4 v4 hown4 hg4
                 have HO4 := hD hown4
                 have HG4 := hD hg4
                 have HVx : Hid (Vz v4 (wr.heap.size + 1 + 1) [.int .u8 (d.kind : Int), .int .u8 3, .int .u8 (d.mode : Int), .slice d.read.a d.read.l.length d.read.c, .slice d.write.a d.write.l.length d.write.c, .slice d.faults.a d.faults.l.length d.faults.c]) := hD (HVx.out.grown hg4 (fun e => by have := (HO1w.out.lt _ e).2; omega))
                 have HDp := HDx
                 have HOp := HOx1
                 clear hown4 hg4
                 have hS4 : World.cell? v4 ⟨wr.heap.size + 1 + 1, 0, none⟩ = some (.int .u8 (d.kind : Int)) ∧ World.cell? v4 ⟨wr.heap.size + 1 + 1, 1, none⟩ = some (.int .u8 3) ∧ World.cell? v4 ⟨wr.heap.size + 1 + 1, 2, none⟩ = some (.int .u8 (d.mode : Int)) ∧ World.cell? v4 ⟨wr.heap.size + 1 + 1, 3, none⟩ = some (.slice d.read.a d.read.l.length d.read.c) ∧ World.cell? v4 ⟨wr.heap.size + 1 + 1, 4, none⟩ = some (.slice d.write.a d.write.l.length d.write.c) ∧ World.cell? v4 ⟨wr.heap.size + 1 + 1, 5, none⟩ = some (.slice d.faults.a d.faults.l.length d.faults.c) := ⟨HVx.out.cells 0 _ rfl, HVx.out.cells 1 _ rfl, HVx.out.cells 2 _ rfl, HVx.out.cells 3 _ rfl, HVx.out.cells 4 _ rfl, HVx.out.cells 5 _ rfl⟩
                 refine hK.out _ _ hS4 (fun hHeld => ?_)
                 clear hK K
                 try simp only [Act.put,qk1,qk2,qk3,qk4,qk5,qk6]
                 refine takes [10] ?_
                 refine tkr 11 rfl (fun K hK => ?_)
                 have HDx := hD (HDp.out.row1 (Below.refl _ _) HOp.out HO4.out (by omega) HG4.out)
                 have cz := (HG4.out.cell_far ⟨g, 3, none⟩ HDp.out.dv.lt (by simpa using fun e => by have := (HOp.out.lt g e.symm).1; omega)).trans (HDp.out.dv.cells 3 _ rfl)
                 have fz := (HG4.out.frozen_far ⟨g, 3, none⟩ HDp.out.dv.lt (by simpa using fun e => by have := (HOp.out.lt g e.symm).1; omega)).trans (HDp.out.dv.free 3 (by simp))
                 have lz : g < (World.heap v4).size := Nat.lt_of_lt_of_le HDp.out.dv.lt HG4.out.size
                 go_simp
                 have HVx := hD (HVx.out.grown (grown_set v4 ⟨g, 3, none⟩ (.slice A4 (n1 + 1) c4)) (by have := HD.out.dv.lt; simp; omega))
                 clear cz fz lz
                 generalize World.setCell v4 ⟨g, 3, none⟩ (.slice A4 (n1 + 1) c4) = v5 at HDx HVx ⊢
                 have hS5 : World.cell? v5 ⟨wr.heap.size + 1 + 1, 0, none⟩ = some (.int .u8 (d.kind : Int)) ∧ World.cell? v5 ⟨wr.heap.size + 1 + 1, 1, none⟩ = some (.int .u8 3) ∧ World.cell? v5 ⟨wr.heap.size + 1 + 1, 2, none⟩ = some (.int .u8 (d.mode : Int)) ∧ World.cell? v5 ⟨wr.heap.size + 1 + 1, 3, none⟩ = some (.slice d.read.a d.read.l.length d.read.c) ∧ World.cell? v5 ⟨wr.heap.size + 1 + 1, 4, none⟩ = some (.slice d.write.a d.write.l.length d.write.c) ∧ World.cell? v5 ⟨wr.heap.size + 1 + 1, 5, none⟩ = some (.slice d.faults.a d.faults.l.length d.faults.c) := ⟨HVx.out.cells 0 _ rfl, HVx.out.cells 1 _ rfl, HVx.out.cells 2 _ rfl, HVx.out.cells 3 _ rfl, HVx.out.cells 4 _ rfl, HVx.out.cells 5 _ rfl⟩
                 refine hK.out _ _ hS5 (fun hHeld => ?_)
                 clear hK K
                 try simp only [Act.put,qk1,qk2,qk3,qk4,qk5,qk6]
                 refine wpAnyH_done (by kernel_rfl) ?_ _
                 refine NoPanic.normal ?_
                 go_wp2_with fail
                 go_meet
                 case rel => exact ⟨_, HDx.out⟩
               · go_simp
                 have HAnc : Hid (Rd (World.alloc v2 (.cells #[.string nm2, .int .i64 kk, .int .u16 mm, .slice RA a1 a2, .slice RB a3 a4, .slice RC a5 a6] 77)) 6 (some ⟨(World.heap v2).size, 0, none⟩) 1 [.string nm2, .int .i64 kk, .int .u16 mm, .slice RA a1 a2, .slice RB a3 a4, .slice RC a5 a6]) := hD (rd_new v2 6 1 [.string nm2, .int .i64 kk, .int .u16 mm, .slice RA a1 a2, .slice RB a3 a4, .slice RC a5 a6] 77 rfl)
                 have HLnc : Hid ((World.heap v2).size < (World.heap (World.alloc v2 (.cells #[.string nm2, .int .i64 kk, .int .u16 mm, .slice RA a1 a2, .slice RB a3 a4, .slice RC a5 a6] 77))).size) := hD (by simp)
                 have hbx := below_new v2 (.cells #[.string nm2, .int .i64 kk, .int .u16 mm, .slice RA a1 a2, .slice RB a3 a4, .slice RC a5 a6] 77)
                 have HDx := hD (HDx.out.below hbx)
                 have HVx := hD (HVx.out.below hbx)
                 have HOx := hD (HOx.out.below hbx)
                 have HOx1 := hD (ownsRow_below HOx1.out hbx)
                 clear hbx
                 generalize World.alloc v2 (.cells #[.string nm2, .int .i64 kk, .int .u16 mm, .slice RA a1 a2, .slice RB a3 a4, .slice RC a5 a6] 77) = v3 at HAnc HLnc HDx HVx HOx HOx1 ⊢
                 generalize (World.heap v2).size = nc at HAnc HLnc ⊢
                 have hS3 : World.cell? v3 ⟨wr.heap.size + 1 + 1, 0, none⟩ = some (.int .u8 (d.kind : Int)) ∧ World.cell? v3 ⟨wr.heap.size + 1 + 1, 1, none⟩ = some (.int .u8 3) ∧ World.cell? v3 ⟨wr.heap.size + 1 + 1, 2, none⟩ = some (.int .u8 (d.mode : Int)) ∧ World.cell? v3 ⟨wr.heap.size + 1 + 1, 3, none⟩ = some (.slice d.read.a d.read.l.length d.read.c) ∧ World.cell? v3 ⟨wr.heap.size + 1 + 1, 4, none⟩ = some (.slice d.write.a d.write.l.length d.write.c) ∧ World.cell? v3 ⟨wr.heap.size + 1 + 1, 5, none⟩ = some (.slice d.faults.a d.faults.l.length d.faults.c) := ⟨HVx.out.cells 0 _ rfl, HVx.out.cells 1 _ rfl, HVx.out.cells 2 _ rfl, HVx.out.cells 3 _ rfl, HVx.out.cells 4 _ rfl, HVx.out.cells 5 _ rfl⟩
                 refine hK.out _ _ hS3 (fun hHeld => ?_)
                 clear hK K
                 try simp only [Act.put,qk1,qk2,qk3,qk4,qk5,qk6]
                 refine tkr 1 rfl (fun K hK => ?_)
                 have ca := HDx.out.dv.cells 3 _ rfl
                 have la := HDx.out.dv.lt
                 go_simp
                 clear ca la
                 have hSx : World.cell? v3 ⟨wr.heap.size + 1 + 1, 0, none⟩ = some (.int .u8 (d.kind : Int)) ∧ World.cell? v3 ⟨wr.heap.size + 1 + 1, 1, none⟩ = some (.int .u8 3) ∧ World.cell? v3 ⟨wr.heap.size + 1 + 1, 2, none⟩ = some (.int .u8 (d.mode : Int)) ∧ World.cell? v3 ⟨wr.heap.size + 1 + 1, 3, none⟩ = some (.slice d.read.a d.read.l.length d.read.c) ∧ World.cell? v3 ⟨wr.heap.size + 1 + 1, 4, none⟩ = some (.slice d.write.a d.write.l.length d.write.c) ∧ World.cell? v3 ⟨wr.heap.size + 1 + 1, 5, none⟩ = some (.slice d.faults.a d.faults.l.length d.faults.c) := ⟨HVx.out.cells 0 _ rfl, HVx.out.cells 1 _ rfl, HVx.out.cells 2 _ rfl, HVx.out.cells 3 _ rfl, HVx.out.cells 4 _ rfl, HVx.out.cells 5 _ rfl⟩
                 refine hK.out _ _ hSx (fun hHeld => ?_)
                 clear hK K hSx
                 try simp only [Act.put,qk1,qk2,qk3,qk4,qk5,qk6]
                 refine tkr 9 rfl (fun K hK => ?_)
                 refine step_apg elemCfg rfl _ _ (by rfl) (g + 1) (by rfl) HOx1.out (by rfl) HAnc.out (by simp [Value.oneCell']) (by omega) (by omega) (by have := HDx.out.dv.lt; omega) ?_
                 intro A4 c4 v4 hown4 hg4
                 have HO4 := hD hown4
                 have HG4 := hD hg4
                 have HVx : Hid (Vz v4 (wr.heap.size + 1 + 1) [.int .u8 (d.kind : Int), .int .u8 3, .int .u8 (d.mode : Int), .slice d.read.a d.read.l.length d.read.c, .slice d.write.a d.write.l.length d.write.c, .slice d.faults.a d.faults.l.length d.faults.c]) := hD (HVx.out.grown hg4 (fun e => by have := (HO1w.out.lt _ e).2; omega))
                 have HDp := HDx
                 have HOp := HOx1
                 clear hown4 hg4
                 have hS4 : World.cell? v4 ⟨wr.heap.size + 1 + 1, 0, none⟩ = some (.int .u8 (d.kind : Int)) ∧ World.cell? v4 ⟨wr.heap.size + 1 + 1, 1, none⟩ = some (.int .u8 3) ∧ World.cell? v4 ⟨wr.heap.size + 1 + 1, 2, none⟩ = some (.int .u8 (d.mode : Int)) ∧ World.cell? v4 ⟨wr.heap.size + 1 + 1, 3, none⟩ = some (.slice d.read.a d.read.l.length d.read.c) ∧ World.cell? v4 ⟨wr.heap.size + 1 + 1, 4, none⟩ = some (.slice d.write.a d.write.l.length d.write.c) ∧ World.cell? v4 ⟨wr.heap.size + 1 + 1, 5, none⟩ = some (.slice d.faults.a d.faults.l.length d.faults.c) := ⟨HVx.out.cells 0 _ rfl, HVx.out.cells 1 _ rfl, HVx.out.cells 2 _ rfl, HVx.out.cells 3 _ rfl, HVx.out.cells 4 _ rfl, HVx.out.cells 5 _ rfl⟩
                 refine hK.out _ _ hS4 (fun hHeld => ?_)
                 clear hK K
                 try simp only [Act.put,qk1,qk2,qk3,qk4,qk5,qk6]
                 refine takes [10] ?_
                 refine tkr 11 rfl (fun K hK => ?_)
                 have HDx := hD (HDp.out.row1 (Below.refl _ _) HOp.out HO4.out (by omega) HG4.out)
                 have cz := (HG4.out.cell_far ⟨g, 3, none⟩ HDp.out.dv.lt (by simpa using fun e => by have := (HOp.out.lt g e.symm).1; omega)).trans (HDp.out.dv.cells 3 _ rfl)
                 have fz := (HG4.out.frozen_far ⟨g, 3, none⟩ HDp.out.dv.lt (by simpa using fun e => by have := (HOp.out.lt g e.symm).1; omega)).trans (HDp.out.dv.free 3 (by simp))
                 have lz : g < (World.heap v4).size := Nat.lt_of_lt_of_le HDp.out.dv.lt HG4.out.size
                 go_simp
                 have HVx := hD (HVx.out.grown (grown_set v4 ⟨g, 3, none⟩ (.slice A4 (n1 + 1) c4)) (by have := HD.out.dv.lt; simp; omega))
                 clear cz fz lz
                 generalize World.setCell v4 ⟨g, 3, none⟩ (.slice A4 (n1 + 1) c4) = v5 at HDx HVx ⊢
                 have hS5 : World.cell? v5 ⟨wr.heap.size + 1 + 1, 0, none⟩ = some (.int .u8 (d.kind : Int)) ∧ World.cell? v5 ⟨wr.heap.size + 1 + 1, 1, none⟩ = some (.int .u8 3) ∧ World.cell? v5 ⟨wr.heap.size + 1 + 1, 2, none⟩ = some (.int .u8 (d.mode : Int)) ∧ World.cell? v5 ⟨wr.heap.size + 1 + 1, 3, none⟩ = some (.slice d.read.a d.read.l.length d.read.c) ∧ World.cell? v5 ⟨wr.heap.size + 1 + 1, 4, none⟩ = some (.slice d.write.a d.write.l.length d.write.c) ∧ World.cell? v5 ⟨wr.heap.size + 1 + 1, 5, none⟩ = some (.slice d.faults.a d.faults.l.length d.faults.c) := ⟨HVx.out.cells 0 _ rfl, HVx.out.cells 1 _ rfl, HVx.out.cells 2 _ rfl, HVx.out.cells 3 _ rfl, HVx.out.cells 4 _ rfl, HVx.out.cells 5 _ rfl⟩
                 refine hK.out _ _ hS5 (fun hHeld => ?_)
                 clear hK K
                 try simp only [Act.put,qk1,qk2,qk3,qk4,qk5,qk6]
                 refine wpAnyH_done (by kernel_rfl) ?_ _
                 refine NoPanic.normal ?_
                 go_wp2_with fail
                 go_meet
                 case rel => exact ⟨_, HDx.out⟩
        case rest =>
         obtain ⟨q1', hd⟩ := hcut
         rename World => w8
         have HD8 := hD hd
         clear hd HD HDv HBv HVv HOv HB9 HV9 HO9
         obtain ⟨n2, xs2, hn2, how2⟩ := HD8.out.o2
         have HO2 := hD how2
         obtain ⟨A2, c2, rfl⟩ := ownsRow_form how2
         clear how2
         have c4 := HD8.out.dv.cells 4 _ rfl
         have l4 := HD8.out.dv.lt
         have HO2a := hD (HO2.out.alloc (.cells #[.int .i64 (j : Int)] 3))
         go_wp2_with (at_builtin; refine wpList_apg elemI rfl _ _ rfl (g + 1) rfl HO2a.out rfl (rd_new w8 1 1 [.int .i64 (j : Int)] _ (by rfl)) (by simp [Value.oneCell']) (by omega) (by omega) (by simp; omega) ?_)
         intro A4 cc4 w4 hown4 hg4
         have hb8 := below_new w8 (.cells #[.int .i64 (j : Int)] 3)
         have HDn := hD (HD8.out.row2 hb8 HO2a.out hown4 (by omega) hg4)
         have hne : ∀ b, b < g + 1 → (Value.slice A2 n2 c2).ownBlock ≠ some b := fun b hb e => by have := (HO2.out.lt b e).1; omega
         have cz := (hg4.cell_far ⟨g, 4, none⟩ (by simp; omega) (by simpa using fun e => hne g (by omega) e.symm)).trans ((hb8.cell (p := ⟨g, 4, none⟩) l4).trans c4)
         have fz := (hg4.frozen_far ⟨g, 4, none⟩ (by simp; omega) (by simpa using fun e => hne g (by omega) e.symm)).trans ((hb8.frozen (p := ⟨g, 4, none⟩) l4).trans (HD8.out.dv.free 4 (by simp)))
         have lz : g < w4.heap.size := Nat.lt_of_lt_of_le (by simp; omega) hg4.size
         clear hown4 hg4 hb8 hne c4 l4
         go_wp2_with fail
         go_roundw
         case rel => exact ⟨j + 1, _, _, by go_num, by omega, HDn.out⟩
         case measure => simp [intOf]; omega
end Go.Proofs.YtikpcebhcnjkhaaGreatDoor
