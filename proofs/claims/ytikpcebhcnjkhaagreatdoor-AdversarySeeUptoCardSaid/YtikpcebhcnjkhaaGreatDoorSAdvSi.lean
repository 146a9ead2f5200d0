/- ref51.Equal of two that hold the same. -/
import Derived.Test.YtikpcebhcnjkhaaGreatDoorSPl
import Derived.Test.YtikpcebhcnjkhaaGreatDoorSAdvSh
namespace Go.Proofs.YtikpcebhcnjkhaaGreatDoor
open Go.RowKit Q40
set_option maxRecDepth 100000 in
set_option maxHeartbeats 8000000 in
theorem refEqual_any (A1 B1 A2 B2 : Option Addr) (c1 d1 c2 d2 : Nat) (ss : List St) (vs : List (List UInt8)) (w : World) (h1 : Rd w 12 A1 ss.length (ss.flatMap stC)) (h2 : Rd w 12 A2 ss.length (ss.flatMap stC)) (g1 : Rd w 1 B1 vs.length (strC vs)) (g2 : Rd w 1 B2 vs.length (strC vs)) (hso : ∀ y ∈ ss, y.ok w ∧ y.sz ≤ 16777216) (hl1 : ss.length ≤ 1048576) (hl2 : vs.length ≤ 1048576) :
    Calls Tryz.prog 19 #[.agg #[.slice A1 ss.length c1, .slice B1 vs.length d1], .agg #[.slice A2 ss.length c2, .slice B2 vs.length d2]] w (RetBool true w) := by
 have HL0 : Hid (Below w.heap.size w ((w.alloc (.cells #[.slice A1 ss.length c1, .slice B1 vs.length d1] 59)).alloc (.cells #[.slice A2 ss.length c2, .slice B2 vs.length d2] 59))) := hD (bon (below_new w _) (below_new _ _))
 have HZ0 : Hid (Vz ((w.alloc (.cells #[.slice A1 ss.length c1, .slice B1 vs.length d1] 59)).alloc (.cells #[.slice A2 ss.length c2, .slice B2 vs.length d2] 59)) w.heap.size [.slice A1 ss.length c1, .slice B1 vs.length d1]) := hD ((Vz.new w [.slice A1 ss.length c1, .slice B1 vs.length d1] 59).below (below_new _ _))
 have HY0 : Hid (Vz ((w.alloc (.cells #[.slice A1 ss.length c1, .slice B1 vs.length d1] 59)).alloc (.cells #[.slice A2 ss.length c2, .slice B2 vs.length d2] 59)) (w.heap.size + 1) [.slice A2 ss.length c2, .slice B2 vs.length d2]) := hD (by
  have h9 := Vz.new (w.alloc (.cells #[.slice A1 ss.length c1, .slice B1 vs.length d1] 59)) [.slice A2 ss.length c2, .slice B2 vs.length d2] 59
  rw [World.size_alloc] at h9
  exact h9)
 obtain ⟨w3, hw3⟩ : ∃ w3, w3 = ((w.alloc (.cells #[.slice A1 ss.length c1, .slice B1 vs.length d1] 59)).alloc (.cells #[.slice A2 ss.length c2, .slice B2 vs.length d2] 59)) := ⟨_, rfl⟩
 rw [← hw3] at HL0 HZ0 HY0
 have HW3 : Hid (((w.alloc (.cells #[.slice A1 ss.length c1, .slice B1 vs.length d1] 59)).alloc (.cells #[.slice A2 ss.length c2, .slice B2 vs.length d2] 59)) = w3) := hD hw3.symm
 have H1 := hD h1
 have H2 := hD h2
 have G1 := hD g1
 have G2 := hD g2
 have HEqA : Hid (∀ y ∈ ss, ∀ W, Below w.heap.size w W → Calls Tryz.prog 39 #[.agg (stC y).toArray, .agg (stC y).toArray] W (RetBool true W)) := hD (fun y hy W hb => by
  have h9 := refEqualStatus_any y y W (St.below (hso y hy).1 hb) (St.below (hso y hy).1 hb) (hso y hy).2 (hso y hy).2
  rw [eqT_self] at h9
  exact h9)
 clear hw3 hso h1 h2 g1 g2
 go_enter Tryz.func19, Tryz.ntmps19
 go_upto_region 1 with fail
 refine world_eqA HW3.out ?_
 have HL := HL0
 have HZ := HZ0
 have HY := HY0
 clear HW3 HL0 HZ0 HY0
 have z0 := HZ.out.cells 0 _ rfl
 have z1 := HZ.out.cells 1 _ rfl
 have y0 := HY.out.cells 0 _ rfl
 have y1 := HY.out.cells 1 _ rfl
 have lz := HZ.out.lt
 have ly := HY.out.lt
 go_wp2_with fail
 go_loopw [5] (fun i wr => ∃ k : Nat, i = .int .i64 k ∧ k ≤ ss.length ∧ Below w.heap.size w wr ∧ Vz wr w.heap.size [.slice A1 ss.length c1, .slice B1 vs.length d1] ∧ Vz wr (w.heap.size + 1) [.slice A2 ss.length c2, .slice B2 vs.length d2]) (fun i _ => ss.length - (intOf i).toNat)
 case atStart => exact ⟨0, rfl, by omega, HL.out, HZ.out, HY.out⟩
 case round =>
  obtain ⟨k, rfl, hk, hbl, hz, hy⟩ := hrel
  have HL := hD hbl
  have HZ := hD hz
  have HY := hD hy
  clear hbl hz hy z0 z1 y0 y1 lz ly
  have z0 := HZ.out.cells 0 _ rfl
  have z1 := HZ.out.cells 1 _ rfl
  have y0 := HY.out.cells 0 _ rfl
  have y1 := HY.out.cells 1 _ rfl
  have lz := HZ.out.lt
  have ly := HY.out.lt
  by_cases hlt : k < ss.length
  · have i0' : (0 : Int) ≤ (k : Int) := by omega
    have i1 : (k : Int) < (ss.length : Int) := by omega
    obtain ⟨b, off, rfl, hg, hcc⟩ := Rd.at H1.out stC_len (by decide) hlt
    obtain ⟨b2, off2, rfl, hg2, hcc2⟩ := Rd.at H2.out stC_len (by decide) hlt
    have HEq := hD (HEqA.out ss[k] (List.getElem_mem hlt))
    obtain ⟨y, hy⟩ : ∃ y, y = ss[k] := ⟨_, rfl⟩
    rw [← hy] at hcc hcc2 HEq
    have HXr : Hid (∀ W, Below w.heap.size w W → World.rangeAt W b (off + k * 12) (stC y)) := hD (fun W hW j v hj => hcc W hW j v hj)
    have HYr : Hid (∀ W, Below w.heap.size w W → World.rangeAt W b2 (off2 + k * 12) (stC y)) := hD (fun W hW j v hj => hcc2 W hW j v hj)
    clear hcc hcc2 hy hg hg2
    go_upto_region 6 with fail
    clear z0 z1 y0 y1 lz ly
    refine wp_region_noPanic ?_
    have HL : Hid (Below w.heap.size w wr.drew) := hD (bon HL.out (Below.refl _ _).drew)
    have HZ : Hid (Vz wr.drew w.heap.size [.slice (some ⟨b, off, none⟩) ss.length c1, .slice B1 vs.length d1]) := hD (HZ.out.below (Below.refl _ _).drew)
    have HY : Hid (Vz wr.drew (w.heap.size + 1) [.slice (some ⟨b2, off2, none⟩) ss.length c2, .slice B2 vs.length d2]) := hD (HY.out.below (Below.refl _ _).drew)
    generalize hv : wr.drew = v0 at HL HZ HY
    have hS0 : World.cell? v0 ⟨w.heap.size, 0, none⟩ = some (.slice (some ⟨b, off, none⟩) ss.length c1) ∧ World.cell? v0 ⟨w.heap.size + 1, 0, none⟩ = some (.slice (some ⟨b2, off2, none⟩) ss.length c2) ∧ World.rangeAt v0 b (off + k * 12) (stC y) ∧ World.rangeAt v0 b2 (off2 + k * 12) (stC y) := ⟨HZ.out.cells 0 _ rfl, HY.out.cells 0 _ rfl, HXr.out _ HL.out, HYr.out _ HL.out⟩
    refine wp_region_held_drew (S := fun W => World.cell? W ⟨w.heap.size, 0, none⟩ = some (.slice (some ⟨b, off, none⟩) ss.length c1) ∧ World.cell? W ⟨w.heap.size + 1, 0, none⟩ = some (.slice (some ⟨b2, off2, none⟩) ss.length c2) ∧ World.rangeAt W b (off + k * 12) (stC y) ∧ World.rangeAt W b2 (off2 + k * 12) (stC y)) (by kernel_rfl) (by rw [hv]; exact hS0) (fun hHeld => ?_)
    rw [hv] at hHeld ⊢
    clear hv
    refine takes [0,1,2,3] ?_
    refine tkq 4 rfl (yieldsIf_load_mid (by rfl) 62 _ (by rfl) _ _ (by rfl) (stC y) _ (fun W h => h.2.2.1) Tryz.underlying62 rfl (infoStn y)) (by assumption) ?_
    try simp only [Act.put,qk1,qk2,qk3,qk4,qk5,qk6]
    refine takes [5,6,7,8] ?_
    refine tkq 9 rfl (yieldsIf_load_mid (by rfl) 62 _ (by rfl) _ _ (by rfl) (stC y) _ (fun W h => h.2.2.2) Tryz.underlying62 rfl (infoStn y)) (by assumption) ?_
    try simp only [Act.put,qk1,qk2,qk3,qk4,qk5,qk6]
    refine tkr 10 rfl (fun K hK => ?_)
    go_simp
    go_at_call 39
    refine (HEq.out _ HL.out).mono ?_
    rintro e v1 ⟨rfl, hs⟩
    have HL := hD (bon HL.out hs)
    have HZ := hD (HZ.out.below hs)
    have HY := hD (HY.out.below hs)
    clear hs
    go_wp2_with fail
    have hS1 : World.cell? v1 ⟨w.heap.size, 0, none⟩ = some (.slice (some ⟨b, off, none⟩) ss.length c1) ∧ World.cell? v1 ⟨w.heap.size + 1, 0, none⟩ = some (.slice (some ⟨b2, off2, none⟩) ss.length c2) ∧ World.rangeAt v1 b (off + k * 12) (stC y) ∧ World.rangeAt v1 b2 (off2 + k * 12) (stC y) := ⟨HZ.out.cells 0 _ rfl, HY.out.cells 0 _ rfl, HXr.out _ HL.out, HYr.out _ HL.out⟩
    refine hK.out _ _ hS1 (fun hHeld => ?_)
    clear hK K
    try simp only [Act.put,qk1,qk2,qk3,qk4,qk5,qk6]
    refine takes [11] ?_
    refine wpAnyH_done (by kernel_rfl) ?_ _
    refine NoPanic.normal ?_
    clear hS0 hS1 hHeld
    go_wp2_with fail
    go_roundw
    case rel => exact ⟨k + 1, by go_num, by omega, HL.out, HZ.out, HY.out⟩
    case measure => simp [intOf]; omega
  · obtain rfl : k = ss.length := by omega
    go_wp2_with fail
    clear z0 z1 y0 y1 lz ly
    go_loopw [6] (fun i wr => ∃ k : Nat, i = .int .i64 k ∧ k ≤ vs.length ∧ Below w.heap.size w wr ∧ Vz wr w.heap.size [.slice A1 ss.length c1, .slice B1 vs.length d1] ∧ Vz wr (w.heap.size + 1) [.slice A2 ss.length c2, .slice B2 vs.length d2]) (fun i _ => vs.length - (intOf i).toNat)
    case atStart => exact ⟨0, rfl, by omega, HL.out, HZ.out, HY.out⟩
    case round =>
     obtain ⟨k, rfl, hk, hbl, hz, hy⟩ := hrel
     have HL := hD hbl
     have HZ := hD hz
     have HY := hD hy
     clear hbl hz hy
     have z0 := HZ.out.cells 0 _ rfl
     have z1 := HZ.out.cells 1 _ rfl
     have y0 := HY.out.cells 0 _ rfl
     have y1 := HY.out.cells 1 _ rfl
     have lz := HZ.out.lt
     have ly := HY.out.lt
     by_cases hlt : k < vs.length
     · have i0' : (0 : Int) ≤ (k : Int) := by omega
       have i1 : (k : Int) < (vs.length : Int) := by omega
       obtain ⟨b, off, rfl, hg, hcc⟩ := Rd.at (by rw [strV_flat]; exact G1.out : Rd w 1 B1 vs.length (vs.flatMap strV)) (fun _ => rfl) (by decide) hlt
       obtain ⟨b2, off2, rfl, hg2, hcc2⟩ := Rd.at (by rw [strV_flat]; exact G2.out : Rd w 1 B2 vs.length (vs.flatMap strV)) (fun _ => rfl) (by decide) hlt
       obtain ⟨y, hy⟩ : ∃ y, y = vs[k] := ⟨_, rfl⟩
       rw [← hy] at hcc hcc2
       have HXr : Hid (∀ W, Below w.heap.size w W → World.cell? W ⟨b, off + k, none⟩ = some (.string ⟨y.toArray⟩)) := hD (fun W hW => by have h9 := hcc W hW 0 _ rfl; rw [Nat.mul_one, Nat.add_zero] at h9; exact h9)
       have HYr : Hid (∀ W, Below w.heap.size w W → World.cell? W ⟨b2, off2 + k, none⟩ = some (.string ⟨y.toArray⟩)) := hD (fun W hW => by have h9 := hcc2 W hW 0 _ rfl; rw [Nat.mul_one, Nat.add_zero] at h9; exact h9)
       clear hcc hcc2 hy hg hg2
       go_upto_region 11 with fail
       clear z0 z1 y0 y1 lz ly
       refine wp_region_noPanic ?_
       have HL : Hid (Below w.heap.size w wr.drew) := hD (bon HL.out (Below.refl _ _).drew)
       have HZ : Hid (Vz wr.drew w.heap.size [.slice A1 ss.length c1, .slice (some ⟨b, off, none⟩) vs.length d1]) := hD (HZ.out.below (Below.refl _ _).drew)
       have HY : Hid (Vz wr.drew (w.heap.size + 1) [.slice A2 ss.length c2, .slice (some ⟨b2, off2, none⟩) vs.length d2]) := hD (HY.out.below (Below.refl _ _).drew)
       generalize hv : wr.drew = v0 at HL HZ HY
       have hS0 : World.cell? v0 ⟨w.heap.size, 1, none⟩ = some (.slice (some ⟨b, off, none⟩) vs.length d1) ∧ World.cell? v0 ⟨w.heap.size + 1, 1, none⟩ = some (.slice (some ⟨b2, off2, none⟩) vs.length d2) ∧ World.cell? v0 ⟨b, off + k, none⟩ = some (.string ⟨y.toArray⟩) ∧ World.cell? v0 ⟨b2, off2 + k, none⟩ = some (.string ⟨y.toArray⟩) := ⟨HZ.out.cells 1 _ rfl, HY.out.cells 1 _ rfl, HXr.out _ HL.out, HYr.out _ HL.out⟩
       refine wp_region_held_drew (S := fun W => World.cell? W ⟨w.heap.size, 1, none⟩ = some (.slice (some ⟨b, off, none⟩) vs.length d1) ∧ World.cell? W ⟨w.heap.size + 1, 1, none⟩ = some (.slice (some ⟨b2, off2, none⟩) vs.length d2) ∧ World.cell? W ⟨b, off + k, none⟩ = some (.string ⟨y.toArray⟩) ∧ World.cell? W ⟨b2, off2 + k, none⟩ = some (.string ⟨y.toArray⟩)) (by kernel_rfl) (by rw [hv]; exact hS0) (fun hHeld => ?_)
       rw [hv] at hHeld ⊢
       clear hv
       refine takes [0,1,2,3,4,5,6,7,8,9,10] ?_
       refine wpAnyH_done (by kernel_rfl) ?_ _
       refine NoPanic.normal ?_
       clear hS0 hHeld
       go_wp2_with fail
       go_roundw
       case rel => exact ⟨k + 1, by go_num, by omega, HL.out, HZ.out, HY.out⟩
       case measure => simp [intOf]; omega
     · obtain rfl : k = vs.length := by omega
       go_wp2_with fail
       refine bodyPost_ret (v := .bool true) (by simp [results, Tryz.results19, go_sem]) rfl ?_
       exact ⟨rfl, HL.out⟩
end Go.Proofs.YtikpcebhcnjkhaaGreatDoor
