/- ref51.See. -/
import Derived.Test.YtikpcebhcnjkhaaGreatDoorSPl
import Derived.Test.YtikpcebhcnjkhaaGreatDoorSAdvSg
import Derived.Test.YtikpcebhcnjkhaaGreatDoorSAdvSd
namespace Go.Proofs.YtikpcebhcnjkhaaGreatDoor
open Go.RowKit Q40
theorem RdN.far2' {w : World} {g g' k n : Nat} {A : Option Addr} {xs : List Value} (h' : RdN g' w k A n xs) (i : Nat) (v : Value) (h : RdN g w k A n xs) : RdN g' (w.setCell ⟨g, i, none⟩ v) k A n xs := h.far2 h' i v
structure Sr (w : World) (m : Ms) (ss : List St) (vs : List (List UInt8)) (w' : World) : Prop where
 low : Below w.heap.size w w'
 msg : Vz w' (w.heap.size + 1) (msC m)
 res : Vz w' (w.heap.size + 2) [.slice none 0 0, .slice none 0 0]
 box : ∃ A c B d, Vz w' w.heap.size [.slice A ss.length c, .slice B vs.length d] ∧ (RdN w.heap.size w' 12 A ss.length (ss.flatMap stC) ∧ RdN (w.heap.size + 2) w' 12 A ss.length (ss.flatMap stC)) ∧ RdN w.heap.size w' 1 B vs.length (strC vs) ∧ RdN (w.heap.size + 2) w' 1 B vs.length (strC vs)
set_option maxRecDepth 100000 in
set_option maxHeartbeats 16000000 in
theorem refSee_any (As Bv : Option Addr) (cs dv : Nat) (ss : List St) (vs : List (List UInt8)) (m : Ms) (w : World) (hss : Rd w 12 As ss.length (ss.flatMap stC)) (hvs : Rd w 1 Bv vs.length (strC vs)) (hso : ∀ y ∈ ss, y.ok w ∧ y.sz ≤ 16777216) (hm : m.ok w) (hz : m.sz ≤ 1048576) (hl1 : ss.length ≤ 1048576) (hl2 : vs.length ≤ 1048576) :
    Calls Tryz.prog 21 #[.agg #[.slice As ss.length cs, .slice Bv vs.length dv], .agg (msC m).toArray] w (RetSeen (seeAll ss vs m) w) := by
 have HL0 : Hid (Below w.heap.size w (((w.alloc (.cells #[.slice As ss.length cs, .slice Bv vs.length dv] 59)).alloc (.cells (msC m).toArray 50)).alloc (.cells #[.slice none 0 0, .slice none 0 0] 59))) := hD (bon (bon (below_new w _) (below_new _ _)) (below_new _ _))
 have HZ0 : Hid (Vz (((w.alloc (.cells #[.slice As ss.length cs, .slice Bv vs.length dv] 59)).alloc (.cells (msC m).toArray 50)).alloc (.cells #[.slice none 0 0, .slice none 0 0] 59)) w.heap.size [.slice As ss.length cs, .slice Bv vs.length dv]) := hD (((Vz.new w [.slice As ss.length cs, .slice Bv vs.length dv] 59).below (below_new _ _)).below (below_new _ _))
 have HM0 : Hid (Vz (((w.alloc (.cells #[.slice As ss.length cs, .slice Bv vs.length dv] 59)).alloc (.cells (msC m).toArray 50)).alloc (.cells #[.slice none 0 0, .slice none 0 0] 59)) (w.heap.size + 1) (msC m)) := hD (by
  have h9 := (Vz.new (w.alloc (.cells #[.slice As ss.length cs, .slice Bv vs.length dv] 59)) (msC m) 50).below (below_new _ (.cells #[.slice none 0 0, .slice none 0 0] 59))
  rw [World.size_alloc] at h9
  exact h9)
 have HR0 : Hid (Vz (((w.alloc (.cells #[.slice As ss.length cs, .slice Bv vs.length dv] 59)).alloc (.cells (msC m).toArray 50)).alloc (.cells #[.slice none 0 0, .slice none 0 0] 59)) (w.heap.size + 2) [.slice none 0 0, .slice none 0 0]) := hD (by
  have h9 := Vz.new ((w.alloc (.cells #[.slice As ss.length cs, .slice Bv vs.length dv] 59)).alloc (.cells (msC m).toArray 50)) [.slice none 0 0, .slice none 0 0] 59
  rw [World.size_alloc, World.size_alloc] at h9
  exact h9)
 obtain ⟨w3, hw3⟩ : ∃ w3, w3 = (((w.alloc (.cells #[.slice As ss.length cs, .slice Bv vs.length dv] 59)).alloc (.cells (msC m).toArray 50)).alloc (.cells #[.slice none 0 0, .slice none 0 0] 59)) := ⟨_, rfl⟩
 rw [← hw3] at HL0 HZ0 HM0 HR0
 have HW3 : Hid ((((w.alloc (.cells #[.slice As ss.length cs, .slice Bv vs.length dv] 59)).alloc (.cells (msC m).toArray 50)).alloc (.cells #[.slice none 0 0, .slice none 0 0] 59)) = w3) := hD hw3.symm
 have HSr : Hid (Sr w m ss vs w3) := hD ⟨HL0.out, HM0.out, HR0.out, As, cs, Bv, dv, HZ0.out, ⟨hss.apart HL0.out (Nat.le_refl _), hss.apart HL0.out (by omega)⟩, hvs.apart HL0.out (Nat.le_refl _), hvs.apart HL0.out (by omega)⟩
 have HRow : Hid (Rd w 12 m.statuses.a m.statuses.l.length (m.statuses.l.flatMap stC)) := hD hm.2.2.1.1
 have HEnt : Hid (Rd w 3 m.entries.a m.entries.l.length (m.entries.l.flatMap deC)) := hD hm.2.2.2.1.1
 have HStO : Hid (∀ y ∈ m.statuses.l, y.ok w ∧ y.sz ≤ 1048576) := hD (fun y hy => ⟨hm.2.2.1.2 y hy, Nat.le_trans (sum_get St.sz m.statuses.l y hy) (by unfold Ms.sz at hz; omega)⟩)
 have HDeO : Hid (∀ y ∈ m.entries.l, y.value.length ≤ 1048576) := hD (fun y hy => de_le1 hz hy)
 have HSso := hD hso
 have HVal : Hid (m.value.length ≤ 1048576) := hD (by unfold Ms.sz at hz; omega)
 have HM13 : Hid (∀ W, Vz W (w.heap.size + 1) (msC m) → W.cell? ⟨w.heap.size + 1, 13, none⟩ = some (.slice m.statuses.a m.statuses.l.length m.statuses.c)) := hD (fun W h => h.cells 13 _ rfl)
 have HM14 : Hid (∀ W, Vz W (w.heap.size + 1) (msC m) → W.cell? ⟨w.heap.size + 1, 14, none⟩ = some (.slice m.entries.a m.entries.l.length m.entries.c)) := hD (fun W h => h.cells 14 _ rfl)
 have hn1 : m.statuses.l.length ≤ 1048576 := by have h1 := sum_ge St.sz m.statuses.l 14 St.sz_ge; unfold Ms.sz at hz; omega
 have hn2 : m.entries.l.length ≤ 1048576 := by have h1 := sum_ge De.sz m.entries.l 4 De.sz_ge; unfold Ms.sz at hz; omega
 clear hw3 hss hvs hso hm hz HL0 HZ0 HM0 HR0
 go_enter Tryz.func21, Tryz.ntmps21
 go_upto_region 1 with fail
 refine world_eqA HW3.out ?_
 clear HW3
 go_wp2_with fail
 go_loopw [5] (fun i wr => ∃ k : Nat, i = .int .i64 k ∧ k ≤ m.statuses.l.length ∧ Sr w m ((m.statuses.l.take k).foldl seeF (ss, vs)).1 ((m.statuses.l.take k).foldl seeF (ss, vs)).2 wr) (fun i _ => m.statuses.l.length - (intOf i).toNat)
 case atStart => exact ⟨0, rfl, by omega, HSr.out⟩
 case round =>
  obtain ⟨k, rfl, hk, hse⟩ := hrel
  have HSr := hD hse
  clear hse
  have m13 := HM13.out _ HSr.out.msg
  have lm := HSr.out.msg.lt
  by_cases hlt : k < m.statuses.l.length
  · have i0' : (0 : Int) ≤ (k : Int) := by omega
    have i1 : (k : Int) < (m.statuses.l.length : Int) := by omega
    obtain ⟨b, off, hb0, hg, hcc⟩ := Rd.at HRow.out stC_len (by decide) hlt
    have HTk := hD (take_one seeF (ss, vs) m.statuses.l k hlt)
    have hxo := HStO.out _ (List.getElem_mem hlt)
    obtain ⟨x, hx⟩ : ∃ x, x = m.statuses.l[k] := ⟨_, rfl⟩
    rw [← hx] at hcc HTk hxo
    obtain ⟨P, hP⟩ : ∃ P, P = (m.statuses.l.take k).foldl seeF (ss, vs) := ⟨_, rfl⟩
    have HBd : Hid (P.1.length ≤ 1048576 ∧ P.2.length ≤ 1048576 ∧ ∀ y ∈ P.1, y.ok w ∧ y.sz ≤ 16777216) := hD (by rw [hP]; exact see_bd ss vs m.statuses.l w hl1 hl2 HSso.out (fun y hy => ⟨(HStO.out y hy).1, Nat.le_trans (HStO.out y hy).2 (by decide)⟩) k)
    rw [← hP] at HSr HTk
    obtain ⟨ps, pv⟩ := P
    simp only at HSr HBd
    have HXr : Hid (∀ W, Below w.heap.size w W → World.rangeAt W b (off + k * 12) (stC x)) := hD (fun W hW j v hj => hcc W hW j v hj)
    have HSS : Hid (∀ (A B : Option Addr) (c d : Nat) (W : World), Below w.heap.size w W → Rd W 12 A ps.length (ps.flatMap stC) → Calls Tryz.prog 47 #[.agg #[.slice A ps.length c, .slice B pv.length d], .agg (stC x).toArray] W (RetSts B pv.length d A ps (seeSt ps x) W)) := hD (fun A B c d W hW hr => refSeeS_any A B pv.length c d ps x W hr (fun y hy => ⟨St.below (HBd.out.2.2 y hy).1 hW, (HBd.out.2.2 y hy).2⟩) ⟨St.below hxo.1 hW, Nat.le_trans hxo.2 (by decide)⟩ HBd.out.1)
    have HSV : Hid (∀ (A2 B : Option Addr) (c2 d : Nat) (W : World), Below w.heap.size w W → Rd W 1 B pv.length (strC pv) → Calls Tryz.prog 46 #[.agg #[.slice A2 (seeSt ps x).length c2, .slice B pv.length d], .string ⟨x.lock.toArray⟩] W (RetVals A2 (seeSt ps x).length c2 B pv (learnV pv x.lock) W)) := hD (fun A2 B c2 d W hW hr => refSeeV_any A2 B (seeSt ps x).length c2 d pv x.lock W hr (by have := hxo.2; unfold St.sz at this; omega) HBd.out.2.1)
    clear hcc hx hg hxo hP
    rw [hb0] at HM13 m13
    obtain ⟨A, c, B, d, hz9, ⟨ha1, ha2⟩, hb1, hb2⟩ := HSr.out.box
    have HL := hD HSr.out.low
    have HMm := hD HSr.out.msg
    have HRr := hD HSr.out.res
    have HZ := hD hz9
    have HA1 := hD ha1
    have HA2 := hD ha2
    have HB1 := hD hb1
    have HB2 := hD hb2
    clear hz9 ha1 ha2 hb1 hb2
    go_upto_region 4 with fail
    clear m13 lm
    refine wp_region_noPanic ?_
    have HL : Hid (Below w.heap.size w wr.drew) := hD (bon HL.out (Below.refl _ _).drew)
    have HMm : Hid (Vz wr.drew (w.heap.size + 1) (msC m)) := hD (HMm.out.below (Below.refl _ _).drew)
    have HRr : Hid (Vz wr.drew (w.heap.size + 2) [.slice none 0 0, .slice none 0 0]) := hD (HRr.out.below (Below.refl _ _).drew)
    have HZ : Hid (Vz wr.drew w.heap.size [.slice A ps.length c, .slice B pv.length d]) := hD (HZ.out.below (Below.refl _ _).drew)
    have HA1 : Hid (RdN w.heap.size wr.drew 12 A ps.length (ps.flatMap stC)) := hD (HA1.out.below (Below.refl _ _).drew)
    have HA2 : Hid (RdN (w.heap.size + 2) wr.drew 12 A ps.length (ps.flatMap stC)) := hD (HA2.out.below (Below.refl _ _).drew)
    have HB1 : Hid (RdN w.heap.size wr.drew 1 B pv.length (strC pv)) := hD (HB1.out.below (Below.refl _ _).drew)
    have HB2 : Hid (RdN (w.heap.size + 2) wr.drew 1 B pv.length (strC pv)) := hD (HB2.out.below (Below.refl _ _).drew)
    generalize hv : wr.drew = v0 at HL HMm HRr HZ HA1 HA2 HB1 HB2
    have hS0 : World.cell? v0 ⟨w.heap.size + 1, 13, none⟩ = some (.slice (some ⟨b, off, none⟩) m.statuses.l.length m.statuses.c) ∧ World.rangeAt v0 b (off + k * 12) (stC x) ∧ World.cell? v0 ⟨b, off + k * 12 + 4, none⟩ = some (.string ⟨x.lock.toArray⟩) := ⟨HM13.out _ HMm.out, HXr.out _ HL.out, HXr.out _ HL.out 4 _ rfl⟩
    refine wp_region_held_drew (S := fun W => World.cell? W ⟨w.heap.size + 1, 13, none⟩ = some (.slice (some ⟨b, off, none⟩) m.statuses.l.length m.statuses.c) ∧ World.rangeAt W b (off + k * 12) (stC x) ∧ World.cell? W ⟨b, off + k * 12 + 4, none⟩ = some (.string ⟨x.lock.toArray⟩)) (by kernel_rfl) (by rw [hv]; exact hS0) (fun hHeld => ?_)
    rw [hv] at hHeld ⊢
    clear hv
    refine takes [1,2,3,4] ?_
    refine tkq 5 rfl (yieldsIf_load_mid (by rfl) 62 _ (by rfl) _ _ (by rfl) (stC x) _ (fun W h => h.2.1) Tryz.underlying62 rfl (infoStn x)) (by assumption) ?_
    try simp only [Act.put,qk1,qk2,qk3,qk4,qk5,qk6]
    refine takes [7,8,9,10,11,12] ?_
    refine tkr 0 rfl (fun K hK => ?_)
    have z0 := HZ.out.cells 0 _ rfl
    have z1 := HZ.out.cells 1 _ rfl
    have lz := HZ.out.lt
    go_simp
    clear z0 z1 lz
    refine hK.out _ _ hS0 (fun hHeld => ?_)
    clear hK K
    try simp only [Act.put,qk1,qk2,qk3,qk4,qk5,qk6]
    refine tkr 6 rfl (fun K hK => ?_)
    go_simp
    go_at_call 47
    refine (HSS.out A B c d _ HL.out HA1.out.rd).mono ?_
    rintro e v1 ⟨A2, c2, rfl, hrd, hs, hap⟩
    have HAp1 := hD (hap w.heap.size (by have := HRr.out.lt; omega) HA1.out)
    have HAp2 := hD (hap (w.heap.size + 2) (by have := HRr.out.lt; omega) HA2.out)
    have HL := hD (bon HL.out hs)
    have HMm := hD (HMm.out.below hs)
    have HRr := hD (HRr.out.below hs)
    have HZ := hD (HZ.out.below hs)
    have HB1 := hD (HB1.out.below hs)
    have HB2 := hD (HB2.out.below hs)
    clear hrd hs hap HA1 HA2
    go_wp2_with fail
    have hS1 : World.cell? v1 ⟨w.heap.size + 1, 13, none⟩ = some (.slice (some ⟨b, off, none⟩) m.statuses.l.length m.statuses.c) ∧ World.rangeAt v1 b (off + k * 12) (stC x) ∧ World.cell? v1 ⟨b, off + k * 12 + 4, none⟩ = some (.string ⟨x.lock.toArray⟩) := ⟨HM13.out _ HMm.out, HXr.out _ HL.out, HXr.out _ HL.out 4 _ rfl⟩
    refine hK.out _ _ hS1 (fun hHeld => ?_)
    clear hK K
    try simp only [Act.put,qk1,qk2,qk3,qk4,qk5,qk6]
    refine tkr 13 rfl (fun K hK => ?_)
    go_simp
    go_at_call 46
    refine (HSV.out A2 B c2 d _ HL.out HB1.out.rd).mono ?_
    rintro e v2 ⟨B2, d2, rfl, hrd, hs, hap⟩
    have HBp1 := hD (hap w.heap.size (by have := HRr.out.lt; omega) HB1.out)
    have HBp2 := hD (hap (w.heap.size + 2) (by have := HRr.out.lt; omega) HB2.out)
    have HL := hD (bon HL.out hs)
    have HMm := hD (HMm.out.below hs)
    have HRr := hD (HRr.out.below hs)
    have HZ := hD (HZ.out.below hs)
    have HAp1 := hD (HAp1.out.below hs)
    have HAp2 := hD (HAp2.out.below hs)
    clear hrd hs hap HB1 HB2
    go_wp2_with fail
    have hS2 : World.cell? v2 ⟨w.heap.size + 1, 13, none⟩ = some (.slice (some ⟨b, off, none⟩) m.statuses.l.length m.statuses.c) ∧ World.rangeAt v2 b (off + k * 12) (stC x) ∧ World.cell? v2 ⟨b, off + k * 12 + 4, none⟩ = some (.string ⟨x.lock.toArray⟩) := ⟨HM13.out _ HMm.out, HXr.out _ HL.out, HXr.out _ HL.out 4 _ rfl⟩
    refine hK.out _ _ hS2 (fun hHeld => ?_)
    clear hK K
    try simp only [Act.put,qk1,qk2,qk3,qk4,qk5,qk6]
    refine tkr 14 rfl (fun K hK => ?_)
    have z0 := HZ.out.cells 0 _ rfl
    have z1 := HZ.out.cells 1 _ rfl
    have f0 := HZ.out.free 0 (by simp)
    have f1 := HZ.out.free 1 (by simp)
    have lz := HZ.out.lt
    go_simp
    have hg0 := grown_set v2 ⟨w.heap.size, 0, none⟩ (.slice A2 (seeSt ps x).length c2)
    have hg1 := grown_set (v2.setCell ⟨w.heap.size, 0, none⟩ (.slice A2 (seeSt ps x).length c2)) ⟨w.heap.size, 1, none⟩ (.slice B2 (learnV pv x.lock).length d2)
    have HL := hD ((HL.out.setCell (p := ⟨w.heap.size, 0, none⟩) (Nat.le_refl _) (.slice A2 (seeSt ps x).length c2)).setCell (p := ⟨w.heap.size, 1, none⟩) (Nat.le_refl _) (.slice B2 (learnV pv x.lock).length d2))
    have HMm := hD ((HMm.out.grown hg0 (by simp)).grown hg1 (by simp))
    have HRr := hD ((HRr.out.grown hg0 (by simp)).grown hg1 (by simp))
    have HZ := hD (((HZ.out.set 0 (.slice A2 (seeSt ps x).length c2)).set 1 (.slice B2 (learnV pv x.lock).length d2)).eq (cs' := [.slice A2 (seeSt ps x).length c2, .slice B2 (learnV pv x.lock).length d2]) rfl)
    have HA9 := hD ((HAp1.out.far 0 (.slice A2 (seeSt ps x).length c2)).far2 (HAp2.out.far2' 0 (.slice A2 (seeSt ps x).length c2) HAp1.out) 1 (.slice B2 (learnV pv x.lock).length d2))
    have HA8 := hD ((HAp1.out.far 0 (.slice A2 (seeSt ps x).length c2)).far 1 (.slice B2 (learnV pv x.lock).length d2))
    have HB9 := hD ((HBp1.out.far 0 (.slice A2 (seeSt ps x).length c2)).far2 (HBp2.out.far2' 0 (.slice A2 (seeSt ps x).length c2) HBp1.out) 1 (.slice B2 (learnV pv x.lock).length d2))
    have HB8 := hD ((HBp1.out.far 0 (.slice A2 (seeSt ps x).length c2)).far 1 (.slice B2 (learnV pv x.lock).length d2))
    clear z0 z1 f0 f1 lz hg0 hg1
    generalize (World.setCell (World.setCell v2 ⟨w.heap.size, 0, none⟩ (.slice A2 (seeSt ps x).length c2)) ⟨w.heap.size, 1, none⟩ (.slice B2 (learnV pv x.lock).length d2)) = v3 at HL HMm HRr HZ HA9 HA8 HB9 HB8 ⊢
    have hS3 : World.cell? v3 ⟨w.heap.size + 1, 13, none⟩ = some (.slice (some ⟨b, off, none⟩) m.statuses.l.length m.statuses.c) ∧ World.rangeAt v3 b (off + k * 12) (stC x) ∧ World.cell? v3 ⟨b, off + k * 12 + 4, none⟩ = some (.string ⟨x.lock.toArray⟩) := ⟨HM13.out _ HMm.out, HXr.out _ HL.out, HXr.out _ HL.out 4 _ rfl⟩
    refine hK.out _ _ hS3 (fun hHeld => ?_)
    clear hK K
    try simp only [Act.put,qk1,qk2,qk3,qk4,qk5,qk6]
    refine wpAnyH_done (by kernel_rfl) ?_ _
    refine NoPanic.normal ?_
    have HP : Hid (seeF (ps, pv) x = (seeSt ps x, learnV pv x.lock)) := hD rfl
    clear hS0 hS1 hS2 hS3 hHeld
    go_wp2_with fail
    go_roundw
    case rel => exact ⟨k + 1, by go_num, by omega, by rw [HTk.out, HP.out]; exact ⟨HL.out, HMm.out, HRr.out, A2, c2, B2, d2, HZ.out, ⟨HA8.out, HA9.out⟩, HB8.out, HB9.out⟩⟩
    case measure => simp [intOf]; omega
  · obtain rfl : k = m.statuses.l.length := by omega
    rw [List.take_length] at HSr
    obtain ⟨Q, hQ⟩ : ∃ Q, Q = m.statuses.l.foldl seeF (ss, vs) := ⟨_, rfl⟩
    have HBd : Hid (Q.1.length ≤ 1048576 ∧ Q.2.length ≤ 1048576 ∧ ∀ y ∈ Q.1, y.ok w ∧ y.sz ≤ 16777216) := hD (by have h9 := see_bd ss vs m.statuses.l w hl1 hl2 HSso.out (fun y hy => ⟨(HStO.out y hy).1, Nat.le_trans (HStO.out y hy).2 (by decide)⟩) m.statuses.l.length; rw [List.take_length] at h9; rw [hQ]; exact h9)
    have HAll : Hid (seeAll ss vs m = (Q.1, m.entries.l.foldl seeV (learnV Q.2 m.value))) := hD (by unfold seeAll; rw [← hQ])
    rw [← hQ] at HSr
    clear hQ
    obtain ⟨qs, qv⟩ := Q
    simp only at HSr HBd HAll
    obtain ⟨A, c, B, d, hz9, ⟨ha1, ha2⟩, hb1, hb2⟩ := HSr.out.box
    have HL := hD HSr.out.low
    have HMm := hD HSr.out.msg
    have HRr := hD HSr.out.res
    have HZ := hD hz9
    have HA1 := hD ha1
    have HA2 := hD ha2
    have HB1 := hD hb1
    have HB2 := hD hb2
    clear hz9 ha1 ha2 hb1 hb2
    go_upto_region 5 with fail
    clear m13 lm
    have z0 := HZ.out.cells 0 _ rfl
    have z1 := HZ.out.cells 1 _ rfl
    have lz := HZ.out.lt
    have m5 := HMm.out.cells 5 _ rfl
    have lm := HMm.out.lt
    go_wp2_with fail
    refine (refSeeV_any A B qs.length c d qv m.value _ HB1.out.rd HVal.out HBd.out.2.1).mono ?_
    rintro e w6 ⟨B2, d2, rfl, hrd, hs, hap⟩
    have HBp1 := hD (hap w.heap.size (by have := HRr.out.lt; omega) HB1.out)
    have HBp2 := hD (hap (w.heap.size + 2) (by have := HRr.out.lt; omega) HB2.out)
    have HL := hD (bon HL.out hs)
    have HMm := hD (HMm.out.below hs)
    have HRr := hD (HRr.out.below hs)
    have HZ := hD (HZ.out.below hs)
    have HA1 := hD (HA1.out.below hs)
    have HA2 := hD (HA2.out.below hs)
    clear hrd hs hap HB1 HB2 z0 z1 lz m5 lm
    obtain ⟨qw, hqw⟩ : ∃ qw, qw = learnV qv m.value := ⟨_, rfl⟩
    have HQw : Hid (qw.length ≤ 1048576) := hD (by rw [hqw]; exact learnV_len _ _ HBd.out.2.1)
    rw [← hqw] at HBp1 HBp2 HAll ⊢
    clear hqw
    have z0 := HZ.out.cells 0 _ rfl
    have z1 := HZ.out.cells 1 _ rfl
    have f0 := HZ.out.free 0 (by simp)
    have f1 := HZ.out.free 1 (by simp)
    have lz := HZ.out.lt
    go_upto_region 6 with fail
    have hg0 := grown_set w6 ⟨w.heap.size, 0, none⟩ (.slice A qs.length c)
    have hg1 := grown_set (w6.setCell ⟨w.heap.size, 0, none⟩ (.slice A qs.length c)) ⟨w.heap.size, 1, none⟩ (.slice B2 qw.length d2)
    have HSr : Hid (Sr w m qs qw ((w6.setCell ⟨w.heap.size, 0, none⟩ (.slice A qs.length c)).setCell ⟨w.heap.size, 1, none⟩ (.slice B2 qw.length d2))) := hD ⟨(HL.out.setCell (p := ⟨w.heap.size, 0, none⟩) (Nat.le_refl _) _).setCell (p := ⟨w.heap.size, 1, none⟩) (Nat.le_refl _) _, (HMm.out.grown hg0 (by simp)).grown hg1 (by simp), (HRr.out.grown hg0 (by simp)).grown hg1 (by simp), A, c, B2, d2, ((HZ.out.set 0 (.slice A qs.length c)).set 1 (.slice B2 qw.length d2)).eq rfl, ⟨(HA1.out.far 0 _).far 1 _, (HA1.out.far 0 _).far2 (HA2.out.far2' 0 _ HA1.out) 1 _⟩, (HBp1.out.far 0 _).far 1 _, (HBp1.out.far 0 _).far2 (HBp2.out.far2' 0 _ HBp1.out) 1 _⟩
    clear z0 z1 f0 f1 lz hg0 hg1 HL HMm HRr HZ HA1 HA2 HBp1 HBp2
    generalize (w6.setCell ⟨w.heap.size, 0, none⟩ (.slice A qs.length c)).setCell ⟨w.heap.size, 1, none⟩ (.slice B2 qw.length d2) = w7 at HSr ⊢
    go_wp2_with fail
    go_loopw [6] (fun i wr => ∃ k : Nat, i = .int .i64 k ∧ k ≤ m.entries.l.length ∧ Sr w m qs ((m.entries.l.take k).foldl seeV qw) wr) (fun i _ => m.entries.l.length - (intOf i).toNat)
    case atStart => exact ⟨0, rfl, by omega, HSr.out⟩
    case round =>
     obtain ⟨k, rfl, hk, hse⟩ := hrel
     have HSr := hD hse
     clear hse
     have m14 := HM14.out _ HSr.out.msg
     have lm := HSr.out.msg.lt
     by_cases hlt : k < m.entries.l.length
     · have i0' : (0 : Int) ≤ (k : Int) := by omega
       have i1 : (k : Int) < (m.entries.l.length : Int) := by omega
       obtain ⟨b, off, hb0, hg, hcc⟩ := Rd.at HEnt.out deC_len (by decide) hlt
       have HTk := hD (take_one seeV qw m.entries.l k hlt)
       have hxo := HDeO.out _ (List.getElem_mem hlt)
       obtain ⟨x, hx⟩ : ∃ x, x = m.entries.l[k] := ⟨_, rfl⟩
       rw [← hx] at hcc HTk hxo
       obtain ⟨pv, hP⟩ : ∃ P, P = (m.entries.l.take k).foldl seeV qw := ⟨_, rfl⟩
       have HLv : Hid (pv.length ≤ 1048576) := hD (by rw [hP]; exact seeV_bd qw m.entries.l HQw.out k)
       rw [← hP] at HSr HTk
       have HXr : Hid (∀ W, Below w.heap.size w W → World.cell? W ⟨b, off + k * 3 + 1, none⟩ = some (.string ⟨x.value.toArray⟩)) := hD (fun W hW => hcc W hW 1 _ rfl)
       have HSV : Hid (∀ (A B : Option Addr) (c d : Nat) (W : World), Below w.heap.size w W → Rd W 1 B pv.length (strC pv) → Calls Tryz.prog 46 #[.agg #[.slice A qs.length c, .slice B pv.length d], .string ⟨x.value.toArray⟩] W (RetVals A qs.length c B pv (learnV pv x.value) W)) := hD (fun A B c d W hW hr => refSeeV_any A B qs.length c d pv x.value W hr hxo HLv.out)
       clear hcc hx hg hxo hP
       rw [hb0] at HM14 m14
       obtain ⟨A, c, B, d, hz9, ⟨ha1, ha2⟩, hb1, hb2⟩ := HSr.out.box
       have HL := hD HSr.out.low
       have HMm := hD HSr.out.msg
       have HRr := hD HSr.out.res
       have HZ := hD hz9
       have HA1 := hD ha1
       have HA2 := hD ha2
       have HB1 := hD hb1
       have HB2 := hD hb2
       clear hz9 ha1 ha2 hb1 hb2
       go_upto_region 9 with fail
       clear m14 lm
       refine wp_region_noPanic ?_
       have HL : Hid (Below w.heap.size w wr.drew) := hD (bon HL.out (Below.refl _ _).drew)
       have HMm : Hid (Vz wr.drew (w.heap.size + 1) (msC m)) := hD (HMm.out.below (Below.refl _ _).drew)
       have HRr : Hid (Vz wr.drew (w.heap.size + 2) [.slice none 0 0, .slice none 0 0]) := hD (HRr.out.below (Below.refl _ _).drew)
       have HZ : Hid (Vz wr.drew w.heap.size [.slice A qs.length c, .slice B pv.length d]) := hD (HZ.out.below (Below.refl _ _).drew)
       have HA1 : Hid (RdN w.heap.size wr.drew 12 A qs.length (qs.flatMap stC)) := hD (HA1.out.below (Below.refl _ _).drew)
       have HA2 : Hid (RdN (w.heap.size + 2) wr.drew 12 A qs.length (qs.flatMap stC)) := hD (HA2.out.below (Below.refl _ _).drew)
       have HB1 : Hid (RdN w.heap.size wr.drew 1 B pv.length (strC pv)) := hD (HB1.out.below (Below.refl _ _).drew)
       have HB2 : Hid (RdN (w.heap.size + 2) wr.drew 1 B pv.length (strC pv)) := hD (HB2.out.below (Below.refl _ _).drew)
       generalize hv : wr.drew = v0 at HL HMm HRr HZ HA1 HA2 HB1 HB2
       have hS0 : World.cell? v0 ⟨w.heap.size + 1, 14, none⟩ = some (.slice (some ⟨b, off, none⟩) m.entries.l.length m.entries.c) ∧ World.cell? v0 ⟨b, off + k * 3 + 1, none⟩ = some (.string ⟨x.value.toArray⟩) := ⟨HM14.out _ HMm.out, HXr.out _ HL.out⟩
       refine wp_region_held_drew (S := fun W => World.cell? W ⟨w.heap.size + 1, 14, none⟩ = some (.slice (some ⟨b, off, none⟩) m.entries.l.length m.entries.c) ∧ World.cell? W ⟨b, off + k * 3 + 1, none⟩ = some (.string ⟨x.value.toArray⟩)) (by kernel_rfl) (by rw [hv]; exact hS0) (fun hHeld => ?_)
       rw [hv] at hHeld ⊢
       clear hv
       refine takes [1,2,3,4,5,6] ?_
       refine tkr 0 rfl (fun K hK => ?_)
       have z0 := HZ.out.cells 0 _ rfl
       have z1 := HZ.out.cells 1 _ rfl
       have lz := HZ.out.lt
       go_simp
       clear z0 z1 lz
       refine hK.out _ _ hS0 (fun hHeld => ?_)
       clear hK K
       try simp only [Act.put,qk1,qk2,qk3,qk4,qk5,qk6]
       refine tkr 7 rfl (fun K hK => ?_)
       go_simp
       go_at_call 46
       refine (HSV.out A B c d _ HL.out HB1.out.rd).mono ?_
       rintro e v1 ⟨B2, d2, rfl, hrd, hs, hap⟩
       have HBp1 := hD (hap w.heap.size (by have := HRr.out.lt; omega) HB1.out)
       have HBp2 := hD (hap (w.heap.size + 2) (by have := HRr.out.lt; omega) HB2.out)
       have HL := hD (bon HL.out hs)
       have HMm := hD (HMm.out.below hs)
       have HRr := hD (HRr.out.below hs)
       have HZ := hD (HZ.out.below hs)
       have HA1 := hD (HA1.out.below hs)
       have HA2 := hD (HA2.out.below hs)
       clear hrd hs hap HB1 HB2
       go_wp2_with fail
       have hS1 : World.cell? v1 ⟨w.heap.size + 1, 14, none⟩ = some (.slice (some ⟨b, off, none⟩) m.entries.l.length m.entries.c) ∧ World.cell? v1 ⟨b, off + k * 3 + 1, none⟩ = some (.string ⟨x.value.toArray⟩) := ⟨HM14.out _ HMm.out, HXr.out _ HL.out⟩
       refine hK.out _ _ hS1 (fun hHeld => ?_)
       clear hK K
       try simp only [Act.put,qk1,qk2,qk3,qk4,qk5,qk6]
       refine tkr 8 rfl (fun K hK => ?_)
       have z0 := HZ.out.cells 0 _ rfl
       have z1 := HZ.out.cells 1 _ rfl
       have f0 := HZ.out.free 0 (by simp)
       have f1 := HZ.out.free 1 (by simp)
       have lz := HZ.out.lt
       go_simp
       have hg0 := grown_set v1 ⟨w.heap.size, 0, none⟩ (.slice A qs.length c)
       have hg1 := grown_set (v1.setCell ⟨w.heap.size, 0, none⟩ (.slice A qs.length c)) ⟨w.heap.size, 1, none⟩ (.slice B2 (learnV pv x.value).length d2)
       have HL := hD ((HL.out.setCell (p := ⟨w.heap.size, 0, none⟩) (Nat.le_refl _) (.slice A qs.length c)).setCell (p := ⟨w.heap.size, 1, none⟩) (Nat.le_refl _) (.slice B2 (learnV pv x.value).length d2))
       have HMm := hD ((HMm.out.grown hg0 (by simp)).grown hg1 (by simp))
       have HRr := hD ((HRr.out.grown hg0 (by simp)).grown hg1 (by simp))
       have HZ := hD (((HZ.out.set 0 (.slice A qs.length c)).set 1 (.slice B2 (learnV pv x.value).length d2)).eq (cs' := [.slice A qs.length c, .slice B2 (learnV pv x.value).length d2]) rfl)
       have HA9 := hD ((HA1.out.far 0 (.slice A qs.length c)).far2 (HA2.out.far2' 0 (.slice A qs.length c) HA1.out) 1 (.slice B2 (learnV pv x.value).length d2))
       have HA8 := hD ((HA1.out.far 0 (.slice A qs.length c)).far 1 (.slice B2 (learnV pv x.value).length d2))
       have HB9 := hD ((HBp1.out.far 0 (.slice A qs.length c)).far2 (HBp2.out.far2' 0 (.slice A qs.length c) HBp1.out) 1 (.slice B2 (learnV pv x.value).length d2))
       have HB8 := hD ((HBp1.out.far 0 (.slice A qs.length c)).far 1 (.slice B2 (learnV pv x.value).length d2))
       clear z0 z1 f0 f1 lz hg0 hg1
       generalize (World.setCell (World.setCell v1 ⟨w.heap.size, 0, none⟩ (.slice A qs.length c)) ⟨w.heap.size, 1, none⟩ (.slice B2 (learnV pv x.value).length d2)) = v2 at HL HMm HRr HZ HA9 HA8 HB9 HB8 ⊢
       have hS2 : World.cell? v2 ⟨w.heap.size + 1, 14, none⟩ = some (.slice (some ⟨b, off, none⟩) m.entries.l.length m.entries.c) ∧ World.cell? v2 ⟨b, off + k * 3 + 1, none⟩ = some (.string ⟨x.value.toArray⟩) := ⟨HM14.out _ HMm.out, HXr.out _ HL.out⟩
       refine hK.out _ _ hS2 (fun hHeld => ?_)
       clear hK K
       try simp only [Act.put,qk1,qk2,qk3,qk4,qk5,qk6]
       refine wpAnyH_done (by kernel_rfl) ?_ _
       refine NoPanic.normal ?_
       have HP : Hid (seeV pv x = learnV pv x.value) := hD rfl
       clear hS0 hS1 hS2 hHeld
       go_wp2_with fail
       go_roundw
       case rel => exact ⟨k + 1, by go_num, by omega, by rw [HTk.out, HP.out]; exact ⟨HL.out, HMm.out, HRr.out, A, c, B2, d2, HZ.out, ⟨HA8.out, HA9.out⟩, HB8.out, HB9.out⟩⟩
       case measure => simp [intOf]; omega
     · obtain rfl : k = m.entries.l.length := by omega
       rw [List.take_length] at HSr
       obtain ⟨pv, hP⟩ : ∃ P, P = m.entries.l.foldl seeV qw := ⟨_, rfl⟩
       rw [← hP] at HSr HAll
       obtain ⟨A, c, B, d, hz9, ⟨ha1, ha2⟩, hb1, hb2⟩ := HSr.out.box
       have HL := hD HSr.out.low
       have HMm := hD HSr.out.msg
       have HRr := hD HSr.out.res
       have HZ := hD hz9
       have HA1 := hD ha1
       have HA2 := hD ha2
       have HB1 := hD hb1
       have HB2 := hD hb2
       clear hz9 ha1 ha2 hb1 hb2
       have z0 := HZ.out.cells 0 _ rfl
       have z1 := HZ.out.cells 1 _ rfl
       have lz := HZ.out.lt
       clear hP
       have y0 := HRr.out.cells 0 _ rfl
       have y1 := HRr.out.cells 1 _ rfl
       have e0 := HRr.out.free 0 (by simp)
       have e1 := HRr.out.free 1 (by simp)
       have ly := HRr.out.lt
       have hge : w.heap.size ≤ w.heap.size + 2 := by omega
       have HLw := hD ((HL.out.setCell (p := ⟨w.heap.size + 2, 0, none⟩) hge (.slice A qs.length c)).setCell (p := ⟨w.heap.size + 2, 1, none⟩) hge (.slice B pv.length d))
       go_wp2_with fail
       refine bodyPost_ret (v := .agg #[.slice A qs.length c, .slice B pv.length d]) (by simp [results, Tryz.results21, go_sem, y0, y1]) rfl ?_
       rw [HAll.out]
       exact ⟨A, c, B, d, rfl, ((HA2.out.far 0 _).far 1 _).rd, ((HB2.out.far 0 _).far 1 _).rd, HLw.out⟩
end Go.Proofs.YtikpcebhcnjkhaaGreatDoor
