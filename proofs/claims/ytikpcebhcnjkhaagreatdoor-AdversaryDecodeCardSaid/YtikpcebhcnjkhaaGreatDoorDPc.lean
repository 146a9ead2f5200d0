/- adversary.Decode. -/
import Derived.Deep.Cut
import Derived.Deep.CutRange
import Derived.Test.YtikpcebhcnjkhaaGreatDoorDPl
import Derived.Test.YtikpcebhcnjkhaaGreatDoorDPa
import Derived.Test.YtikpcebhcnjkhaaGreatDoorDA8
namespace Go.Proofs.YtikpcebhcnjkhaaGreatDoor
open Go.RowKit
def bI (bs : List Nat) (i : Nat) : Int := ((bs.getD i 0 : Nat) : Int)
def decKd (bs : List Nat) : Int := (bs.getD 0 0 % 5 : Nat) + 1
def decLi (n k s : Nat) (bs : List Nat) : Li := ⟨decKd bs, (((memTo s n).getD (bs.getD 1 0 % (memTo s n).length) 0 : Nat) : Int), bI bs 2 % recv n k (decKd bs), bI bs 3 % 8 + 1, bI bs 4 % 4, bI bs 5 % 8, bI bs 6⟩
def li0 : Li := ⟨0, 0, 0, 0, 0, 0, 0⟩
def decOk (n s : Nat) (bs : List Nat) : Bool := decide (bs.length = 7) && !(memTo s n).isEmpty
def decLie (n k s : Nat) (bs : List Nat) : Li := if decOk n s bs = true then decLi n k s bs else li0
def decErr (n s : Nat) (bs : List Nat) : Int := if bs.length = 7 then (if (memTo s n).isEmpty then 9 else 0) else 6
def RetLie (l : Li) (n : Int) (w : World) (e : Ending) (w' : World) : Prop := e = .returned (.tuple #[.agg #[.int .i64 l.kind, .int .i64 l.server, .int .i64 l.dst, .int .i64 l.view, .int .i64 l.slot, .int .i64 l.value, .int .i64 l.pick], .int .i64 n]) ∧ Below w.heap.size w w'
theorem dec2_at (i : Nat) (m r : Int) (b b1 bo cb : Nat) (bs : List Nat) (W : World) (hb : W.cell? ⟨b, 0, none⟩ = some (.slice (some ⟨b1, bo, none⟩) 7 cb)) (hr : ∀ j v, (BY bs)[j]? = some v → W.cell? ⟨b1, bo + j, none⟩ = some v) (h7 : bs.length = 7) (hi : i < 7) (hl : ∀ x ∈ bs, x < 256) (hm0 : 0 < m) (hm : m ≤ 1000) (hq : bI bs i % m = r) : Calls Tryz.prog 36 #[.int .i64 (i : Int), .int .i64 m, .pointer (some ⟨b, 0, none⟩)] W (Same (.int .i64 r) W) := by
 have hi' : i < bs.length := by omega
 have h9 := dec2_any i m b b1 bo cb bs W (by rw [h7]; exact hb) hr hi' (hl _ (List.getElem_mem hi')) hm0 hm
 rw [← hq]
 unfold bI
 rw [List.getD_eq_getElem?_getD, List.getElem?_eq_getElem hi']
 exact h9
theorem k5at : ∀ q : Nat, q < 5 → (intC [1, 2, 3, 4, 5])[q]? = some (.int .i64 ((q : Int) + 1))
 | 0, _ => rfl
 | 1, _ => rfl
 | 2, _ => rfl
 | 3, _ => rfl
 | 4, _ => rfl
 | _ + 5, h => absurd h (by omega)
theorem by_at (bs : List Nat) (i : Nat) (h : i < bs.length) : (BY bs)[i]? = some (.int .u8 (bI bs i)) := by
 unfold BY bI
 rw [List.getElem?_map, List.getElem?_eq_getElem h, List.getD_eq_getElem?_getD, List.getElem?_eq_getElem h]
 rfl
theorem bI_range (bs : List Nat) (i : Nat) (h : ∀ x ∈ bs, x < 256) : 0 ≤ bI bs i ∧ bI bs i < 256 := by
 unfold bI
 rw [List.getD_eq_getElem?_getD]
 cases e : bs[i]? with
 | none => simp
 | some v => have := h v (List.mem_of_getElem? e); simp; omega
theorem bon_row {w w4 w5 : World} {v : Value} (h : Below w.heap.size w w4) (hg : w4.grownBy w5 v.ownBlock) (hv : ∀ g, v.ownBlock = some g → w.heap.size ≤ g) : Below w.heap.size w w5 := below_grown h h.size hg hv
set_option maxRecDepth 100000 in
set_option maxHeartbeats 20000000 in
theorem decP_full (A B D E F : Option Addr) (u : Int) (n k c n2 c2 n3 c3 n4 c4 c5 : Nat) (s b1 bo cb : Nat) (bs : List Nat) (w : World) (ht : TbE w) (hb1 : b1 < w.heap.size) (hby : ∀ j v, (BY bs)[j]? = some v → w.cell? ⟨b1, bo + j, none⟩ = some v) (h7 : bs.length = 7) (h256 : ∀ x ∈ bs, x < 256) (hs : s < 65536) (hn : 1 ≤ n) (hn5 : n ≤ 5) (hk : k ≤ 2) (hm : (memTo s n).isEmpty = false) :
    Calls Tryz.prog 14 #[.agg #[.slice A n c, .slice B n2 c2, .int .u16 u, .slice D n3 c3, .slice E n4 c4, .slice F k c5], .int .u16 (s : Int), .slice (some ⟨b1, bo, none⟩) 7 cb] w (RetLie (decLi n k s bs) 0 w) := by
 obtain ⟨q0, hq0⟩ : ∃ q0, q0 = bs.getD 0 0 % 5 := ⟨_, rfl⟩
 have hq05 : q0 < 5 := by rw [hq0]; exact Nat.mod_lt _ (by decide)
 obtain ⟨kd, hkd⟩ : ∃ kd : Int, kd = decKd bs := ⟨_, rfl⟩
 have hkd2 : kd = (q0 : Int) + 1 := by rw [hkd, decKd, hq0]
 obtain ⟨ml, hml⟩ : ∃ ml, ml = (memTo s n).length := ⟨_, rfl⟩
 have hml0 : 0 < ml := by
  rw [hml]
  cases hh : memTo s n with
  | nil => rw [hh] at hm; simp at hm
  | cons x r => simp
 have hml5 : ml ≤ 5 := by rw [hml]; exact Nat.le_trans (memTo_len s n) hn5
 obtain ⟨q1, hq1⟩ : ∃ q1, q1 = bs.getD 1 0 % ml := ⟨_, rfl⟩
 have hq1l : q1 < ml := by rw [hq1]; exact Nat.mod_lt _ hml0
 obtain ⟨lv, hlv⟩ : ∃ lv : Int, lv = (((memTo s n).getD q1 0 : Nat) : Int) := ⟨_, rfl⟩
 obtain ⟨r2, hr2⟩ : ∃ r2, r2 = bI bs 2 % recv n k kd := ⟨_, rfl⟩
 obtain ⟨r3, hr3⟩ : ∃ r3, r3 = bI bs 3 % 8 + 1 := ⟨_, rfl⟩
 obtain ⟨r4, hr4⟩ : ∃ r4, r4 = bI bs 4 % 4 := ⟨_, rfl⟩
 obtain ⟨r5, hr5⟩ : ∃ r5, r5 = bI bs 5 % 8 := ⟨_, rfl⟩
 obtain ⟨b6, hb6⟩ : ∃ b6, b6 = bI bs 6 := ⟨_, rfl⟩
 obtain ⟨rc, hrc⟩ : ∃ rc, rc = recv n k kd := ⟨_, rfl⟩
 have hrc0 : 0 < rc ∧ rc ≤ 1000 := by
  have h1 := recv_le n k kd
  have h2 : (n : Int) ≤ recv n k kd := by unfold recv; split <;> omega
  omega
 have HRes : Hid (decLi n k s bs = ⟨kd, lv, r2, r3, r4, r5, b6⟩) := hD (by unfold decLi; rw [← hml, ← hq1, ← hlv, ← hkd, ← hr2, ← hr3, ← hr4, ← hr5, ← hb6])
 have b60 : 0 ≤ b6 := by rw [hb6]; exact (bI_range bs 6 h256).1
 have b61 : b6 < 256 := by rw [hb6]; exact (bI_range bs 6 h256).2
 have r30 : (0 : Int) ≤ r3 - 1 := by omega
 have r31 : r3 ≤ 9 := by omega
 have HW3e : Hid (IntKind.i64.wrap r3 = r3) := hD (by rw [IntKind.wrap_i64]; omega)
 have HW6e : Hid (IntKind.i64.wrap b6 = b6) := hD (by rw [IntKind.wrap_i64]; omega)
 have hq1i : bI bs 1 % (ml : Int) = (q1 : Int) := by unfold bI; rw [hq1]; simp
 have hq0i : bI bs 0 % 5 = (q0 : Int) := by unfold bI; rw [hq0]; simp
 have hcall : ∀ (i : Nat) (m r : Int), i < 7 → 0 < m → m ≤ 1000 → bI bs i % m = r → ∀ W : World, W.cell? ⟨w.heap.size + 1, 0, none⟩ = some (.slice (some ⟨b1, bo, none⟩) 7 cb) → Below w.heap.size w W → Calls Tryz.prog 36 #[.int .i64 (i : Int), .int .i64 m, .pointer (some ⟨w.heap.size + 1, 0, none⟩)] W (Same (.int .i64 r) W) := fun i m r hi h0 h1 hr W hc hB =>
  dec2_at i m r (w.heap.size + 1) b1 bo cb bs W hc (fun j v hj => (hB.cell (p := ⟨b1, bo + j, none⟩) hb1).trans (hby j v hj)) h7 hi h256 h0 h1 hr
 have HC0 : Hid (∀ W : World, W.cell? ⟨w.heap.size + 1, 0, none⟩ = some (.slice (some ⟨b1, bo, none⟩) 7 cb) → Below w.heap.size w W → Calls Tryz.prog 36 #[.int .i64 0, .int .i64 5, .pointer (some ⟨w.heap.size + 1, 0, none⟩)] W (Same (.int .i64 (q0 : Int)) W)) := hD (hcall 0 5 _ (by decide) (by decide) (by decide) hq0i)
 have HC1 : Hid (∀ W : World, W.cell? ⟨w.heap.size + 1, 0, none⟩ = some (.slice (some ⟨b1, bo, none⟩) 7 cb) → Below w.heap.size w W → Calls Tryz.prog 36 #[.int .i64 1, .int .i64 (ml : Int), .pointer (some ⟨w.heap.size + 1, 0, none⟩)] W (Same (.int .i64 (q1 : Int)) W)) := hD (hcall 1 _ _ (by decide) (by omega) (by omega) hq1i)
 have HC2 : Hid (∀ W : World, W.cell? ⟨w.heap.size + 1, 0, none⟩ = some (.slice (some ⟨b1, bo, none⟩) 7 cb) → Below w.heap.size w W → Calls Tryz.prog 36 #[.int .i64 2, .int .i64 rc, .pointer (some ⟨w.heap.size + 1, 0, none⟩)] W (Same (.int .i64 r2) W)) := hD (hcall 2 _ _ (by decide) (by omega) (by omega) (by rw [hr2, hrc]))
 have HC3 : Hid (∀ W : World, W.cell? ⟨w.heap.size + 1, 0, none⟩ = some (.slice (some ⟨b1, bo, none⟩) 7 cb) → Below w.heap.size w W → Calls Tryz.prog 36 #[.int .i64 3, .int .i64 8, .pointer (some ⟨w.heap.size + 1, 0, none⟩)] W (Same (.int .i64 (r3 - 1)) W)) := hD (hcall 3 8 _ (by decide) (by decide) (by decide) (by omega))
 have HC4 : Hid (∀ W : World, W.cell? ⟨w.heap.size + 1, 0, none⟩ = some (.slice (some ⟨b1, bo, none⟩) 7 cb) → Below w.heap.size w W → Calls Tryz.prog 36 #[.int .i64 4, .int .i64 4, .pointer (some ⟨w.heap.size + 1, 0, none⟩)] W (Same (.int .i64 r4) W)) := hD (hcall 4 4 _ (by decide) (by decide) (by decide) hr4.symm)
 have HC5 : Hid (∀ W : World, W.cell? ⟨w.heap.size + 1, 0, none⟩ = some (.slice (some ⟨b1, bo, none⟩) 7 cb) → Below w.heap.size w W → Calls Tryz.prog 36 #[.int .i64 5, .int .i64 8, .pointer (some ⟨w.heap.size + 1, 0, none⟩)] W (Same (.int .i64 r5) W)) := hD (hcall 5 8 _ (by decide) (by decide) (by decide) hr5.symm)
 have hby6 : w.cell? ⟨b1, bo + 6, none⟩ = some (.int .u8 b6) := hby 6 _ (by rw [hb6]; exact by_at bs 6 (by omega))
 have HRc : Hid (∀ W, Calls Tryz.prog 27 #[.agg #[.slice A n c, .slice B n2 c2, .int .u16 u, .slice D n3 c3, .slice E n4 c4, .slice F k c5], .int .i64 kd] W (RetInt rc W)) := hD (fun W => hrc ▸ recvP_any A B D E F u n c n2 c2 n3 c3 n4 c4 k c5 kd W (by omega))
 have HL0 : Hid (Below w.heap.size w (((w.alloc (.cells #[.slice A n c, .slice B n2 c2, .int .u16 u, .slice D n3 c3, .slice E n4 c4, .slice F k c5] 36)).alloc (.cells #[.slice (some ⟨b1, bo, none⟩) 7 cb] 53)).alloc (.cells #[.int .i64 0, .int .i64 0, .int .i64 0, .int .i64 0, .int .i64 0, .int .i64 0, .int .i64 0] 28))) := hD (bon (bon (below_new w _) (below_new _ _)) (below_new _ _))
 have HD0 : Hid (Vz (((w.alloc (.cells #[.slice A n c, .slice B n2 c2, .int .u16 u, .slice D n3 c3, .slice E n4 c4, .slice F k c5] 36)).alloc (.cells #[.slice (some ⟨b1, bo, none⟩) 7 cb] 53)).alloc (.cells #[.int .i64 0, .int .i64 0, .int .i64 0, .int .i64 0, .int .i64 0, .int .i64 0, .int .i64 0] 28)) w.heap.size [.slice A n c, .slice B n2 c2, .int .u16 u, .slice D n3 c3, .slice E n4 c4, .slice F k c5]) := hD (((Vz.new w [.slice A n c, .slice B n2 c2, .int .u16 u, .slice D n3 c3, .slice E n4 c4, .slice F k c5] 36).below (below_new _ _)).below (below_new _ _))
 have HS0 : Hid (Vz (((w.alloc (.cells #[.slice A n c, .slice B n2 c2, .int .u16 u, .slice D n3 c3, .slice E n4 c4, .slice F k c5] 36)).alloc (.cells #[.slice (some ⟨b1, bo, none⟩) 7 cb] 53)).alloc (.cells #[.int .i64 0, .int .i64 0, .int .i64 0, .int .i64 0, .int .i64 0, .int .i64 0, .int .i64 0] 28)) (w.heap.size + 1) [.slice (some ⟨b1, bo, none⟩) 7 cb]) := hD (by
  have h9 := (Vz.new (w.alloc (.cells #[.slice A n c, .slice B n2 c2, .int .u16 u, .slice D n3 c3, .slice E n4 c4, .slice F k c5] 36)) [.slice (some ⟨b1, bo, none⟩) 7 cb] 53).below (below_new _ (.cells #[.int .i64 0, .int .i64 0, .int .i64 0, .int .i64 0, .int .i64 0, .int .i64 0, .int .i64 0] 28))
  rw [World.size_alloc] at h9
  exact h9)
 have HR0 : Hid (Vz (((w.alloc (.cells #[.slice A n c, .slice B n2 c2, .int .u16 u, .slice D n3 c3, .slice E n4 c4, .slice F k c5] 36)).alloc (.cells #[.slice (some ⟨b1, bo, none⟩) 7 cb] 53)).alloc (.cells #[.int .i64 0, .int .i64 0, .int .i64 0, .int .i64 0, .int .i64 0, .int .i64 0, .int .i64 0] 28)) (w.heap.size + 2) [.int .i64 0, .int .i64 0, .int .i64 0, .int .i64 0, .int .i64 0, .int .i64 0, .int .i64 0]) := hD (by
  have h9 := Vz.new ((w.alloc (.cells #[.slice A n c, .slice B n2 c2, .int .u16 u, .slice D n3 c3, .slice E n4 c4, .slice F k c5] 36)).alloc (.cells #[.slice (some ⟨b1, bo, none⟩) 7 cb] 53)) [.int .i64 0, .int .i64 0, .int .i64 0, .int .i64 0, .int .i64 0, .int .i64 0, .int .i64 0] 28
  rw [World.size_alloc, World.size_alloc] at h9
  exact h9)
 obtain ⟨w3, hw3⟩ : ∃ w3, w3 = (((w.alloc (.cells #[.slice A n c, .slice B n2 c2, .int .u16 u, .slice D n3 c3, .slice E n4 c4, .slice F k c5] 36)).alloc (.cells #[.slice (some ⟨b1, bo, none⟩) 7 cb] 53)).alloc (.cells #[.int .i64 0, .int .i64 0, .int .i64 0, .int .i64 0, .int .i64 0, .int .i64 0, .int .i64 0] 28)) := ⟨_, rfl⟩
 rw [← hw3] at HL0 HD0 HS0 HR0
 have HW3 : Hid ((((w.alloc (.cells #[.slice A n c, .slice B n2 c2, .int .u16 u, .slice D n3 c3, .slice E n4 c4, .slice F k c5] 36)).alloc (.cells #[.slice (some ⟨b1, bo, none⟩) 7 cb] 53)).alloc (.cells #[.int .i64 0, .int .i64 0, .int .i64 0, .int .i64 0, .int .i64 0, .int .i64 0, .int .i64 0] 28)) = w3) := hD hw3.symm
 have HM := hD (membersX_any s w3 hs (ht.below HL0.out))
 have HCut : Hid ((memTo s 16).filter (fun x => !decide (n ≤ x)) = memTo s n) := hD (memTo_cut s n 16 (by omega))
 have HMl := hD hml
 have HLv := hD hlv
 have hs16 := memTo_len s 16
 have hq50 : (0 : Int) ≤ (q0 : Int) := by omega
 have hq51 : (q0 : Int) < 5 := by omega
 have hq60 : (0 : Int) ≤ (q1 : Int) := by omega
 have hq61 : (q1 : Int) < (ml : Int) := by omega
 have HKd := hD hkd2
 clear hw3 ht hby hcall hq0i hq1i hr2 hr3 hr4 hr5 hb6 hrc hq0 hq1 hkd hkd2 hml hlv hm
 go_enter Tryz.func14, Tryz.ntmps14
 go_upto_region 1 with fail
 refine world_eqA HW3.out ?_
 have x0 := HS0.out.cells 0 _ rfl
 have lx := HS0.out.lt
 obtain ⟨mm, hmm⟩ : ∃ mm, mm = memTo s 16 := ⟨_, rfl⟩
 rw [← hmm] at HM HCut hs16
 clear hmm
 go_wp2_with fail
 refine HM.out.mono ?_
 rintro e w4 ⟨A9, c9, rfl, hown, hb9⟩
 have hsz3 := HR0.out.lt
 have HDl := hD (del_mem w3.heap.size w.heap.size A9 c9 A n c mm w4 hown ((HD0.out.below hb9).cells 0 _ rfl) (by omega) (by omega))
 have HOw : Hid (∀ g, (Value.slice A9 mm.length c9).ownBlock = some g → w3.heap.size ≤ g) := hD (fun g hg => (hown.lt g hg).1)
 have HL1 := hD (bon HL0.out hb9)
 have HD1 := hD (HD0.out.below hb9)
 have HS1 := hD (HS0.out.below hb9)
 have HR1 := hD (HR0.out.below hb9)
 have HZ3 := hD hsz3
 clear hb9 x0 lx hown hsz3
 go_wp2_with fail
 refine HDl.out.mono ?_
 rintro e w5 ⟨A5, c8, rfl, hrd, hgr, hlo⟩
 rw [HCut.out] at hrd
 rw [HCut.out, ← HMl.out]
 have hfar : ∀ j, j < w3.heap.size → (Value.slice A9 mm.length c9).ownBlock ≠ some j := fun j hj e => by have := HOw.out j e; omega
 have HL1 := hD (bon_row HL1.out hgr (fun g hg => by have := HOw.out g hg; have := HZ3.out; omega))
 have HD1 := hD (HD1.out.grown hgr (hfar _ (by have := HZ3.out; omega)))
 have HS1 := hD (HS1.out.grown hgr (hfar _ (by have := HZ3.out; omega)))
 have HR1 := hD (HR1.out.grown hgr (hfar _ (by have := HZ3.out; omega)))
 obtain ⟨lb, lo, rfl, hlb, hq9⟩ : ∃ lb lo, A5 = some ⟨lb, lo, none⟩ ∧ lb ≠ w.heap.size + 2 ∧ w5.cell? ⟨lb, lo + q1, none⟩ = some (.int .i64 lv) := by
  have h1 : q1 < (memTo s n).length := by rw [← HMl.out]; exact hq1l
  obtain ⟨b, o, e1, _, hc⟩ := hrd.cells (by rw [natC_len]; omega)
  refine ⟨b, o, e1, by have := HOw.out b (hlo b o e1); have := HZ3.out; omega, hc q1 _ ?_⟩
  rw [HLv.out]
  simp [natC, h1]
 have HQ1 := hD hq9
 have HNe := hD hrd
 clear hq9 hrd hgr hfar hlo
 go_wp2_with fail
 refine (kindsP_any w5).mono ?_
 rintro e v1 ⟨A7, c7, rfl, hr7, hb7⟩
 have HL := hD (bon HL1.out hb7)
 have HD := hD (HD1.out.below hb7)
 have HS := hD (HS1.out.below hb7)
 have HR := hD (HR1.out.below hb7)
 have HQ := hD ((hb7.cell (p := ⟨lb, lo + q1, none⟩) (Lib.lt_of_cell HQ1.out)).trans HQ1.out)
 obtain ⟨kb, ko, rfl, _, hkc⟩ := hr7.cells (by simp [intC])
 have k2 : v1.cell? ⟨kb, ko + q0, none⟩ = some (.int .i64 kd) := by rw [HKd.out]; exact hkc q0 _ (k5at q0 hq05)
 clear hr7 hb7 hkc
 go_wp2_with fail
 refine (HC0.out _ (HS.out.cells 0 _ rfl) HL.out).mono ?_
 rintro e v2 ⟨rfl, rfl⟩
 go_upto_region 8 with fail
 have hne0 : some (w.heap.size + 2) ≠ some w.heap.size := by simp
 have hne1 : some (w.heap.size + 2) ≠ some (w.heap.size + 1) := by simp
 have hge : w.heap.size ≤ w.heap.size + 2 := by omega
 clear k2
 refine wp_region_noPanic ?_
 have HL : Hid (Below w.heap.size w v1.drew) := hD (bon HL.out (Below.refl _ _).drew)
 have HD : Hid (Vz v1.drew w.heap.size [.slice A n c, .slice B n2 c2, .int .u16 u, .slice D n3 c3, .slice E n4 c4, .slice F k c5]) := hD (HD.out.below (Below.refl _ _).drew)
 have HS : Hid (Vz v1.drew (w.heap.size + 1) [.slice (some ⟨b1, bo, none⟩) 7 cb]) := hD (HS.out.below (Below.refl _ _).drew)
 have HR : Hid (Vz v1.drew (w.heap.size + 2) [.int .i64 0, .int .i64 0, .int .i64 0, .int .i64 0, .int .i64 0, .int .i64 0, .int .i64 0]) := hD (HR.out.below (Below.refl _ _).drew)
 have HQ : Hid (World.cell? v1.drew ⟨lb, lo + q1, none⟩ = some (.int .i64 lv)) := hD (((Below.refl _ _).drew.cell (p := ⟨lb, lo + q1, none⟩) (Lib.lt_of_cell HQ.out)).trans HQ.out)
 generalize hv : v1.drew = v0 at HL HD HS HR HQ
 have hS0 : World.cell? v0 ⟨w.heap.size, 0, none⟩ = some (.slice A n c) ∧ World.cell? v0 ⟨w.heap.size, 1, none⟩ = some (.slice B n2 c2) ∧ World.cell? v0 ⟨w.heap.size, 2, none⟩ = some (.int .u16 u) ∧ World.cell? v0 ⟨w.heap.size, 3, none⟩ = some (.slice D n3 c3) ∧ World.cell? v0 ⟨w.heap.size, 4, none⟩ = some (.slice E n4 c4) ∧ World.cell? v0 ⟨w.heap.size, 5, none⟩ = some (.slice F k c5) ∧ World.cell? v0 ⟨w.heap.size + 1, 0, none⟩ = some (.slice (some ⟨b1, bo, none⟩) 7 cb) ∧ World.cell? v0 ⟨lb, lo + q1, none⟩ = some (.int .i64 lv) ∧ World.cell? v0 ⟨b1, bo + 6, none⟩ = some (.int .u8 b6) := ⟨HD.out.cells 0 _ rfl, HD.out.cells 1 _ rfl, HD.out.cells 2 _ rfl, HD.out.cells 3 _ rfl, HD.out.cells 4 _ rfl, HD.out.cells 5 _ rfl, HS.out.cells 0 _ rfl, HQ.out, (HL.out.cell (p := ⟨b1, bo + 6, none⟩) hb1).trans hby6⟩
 refine wp_region_held_drew (S := fun W => World.cell? W ⟨w.heap.size, 0, none⟩ = some (.slice A n c) ∧ World.cell? W ⟨w.heap.size, 1, none⟩ = some (.slice B n2 c2) ∧ World.cell? W ⟨w.heap.size, 2, none⟩ = some (.int .u16 u) ∧ World.cell? W ⟨w.heap.size, 3, none⟩ = some (.slice D n3 c3) ∧ World.cell? W ⟨w.heap.size, 4, none⟩ = some (.slice E n4 c4) ∧ World.cell? W ⟨w.heap.size, 5, none⟩ = some (.slice F k c5) ∧ World.cell? W ⟨w.heap.size + 1, 0, none⟩ = some (.slice (some ⟨b1, bo, none⟩) 7 cb) ∧ World.cell? W ⟨lb, lo + q1, none⟩ = some (.int .i64 lv) ∧ World.cell? W ⟨b1, bo + 6, none⟩ = some (.int .u8 b6)) (by kernel_rfl) (by rw [hv]; exact hS0) (fun hHeld => ?_)
 rw [hv] at hHeld ⊢
 clear hv
 refine takes [0,1,2,3,4,8,9,10,13,16,18,20,21,22,23] ?_
 refine tkr 5 rfl (fun K hK => ?_)
 go_simp
 go_at_call 36
 refine (dsame (HC1.out _ (HS.out.cells 0 _ rfl) HL.out)).mono ?_
 rintro e v1 ⟨rfl, hs⟩
 have HL := hD (bon HL.out hs)
 have HD := hD (HD.out.below hs)
 have HS := hD (HS.out.below hs)
 have HR := hD (HR.out.below hs)
 have HQ := hD ((hs.cell (p := ⟨lb, lo + q1, none⟩) (Lib.lt_of_cell HQ.out)).trans HQ.out)
 clear hs
 go_wp2_with fail
 have hS1 : World.cell? v1 ⟨w.heap.size, 0, none⟩ = some (.slice A n c) ∧ World.cell? v1 ⟨w.heap.size, 1, none⟩ = some (.slice B n2 c2) ∧ World.cell? v1 ⟨w.heap.size, 2, none⟩ = some (.int .u16 u) ∧ World.cell? v1 ⟨w.heap.size, 3, none⟩ = some (.slice D n3 c3) ∧ World.cell? v1 ⟨w.heap.size, 4, none⟩ = some (.slice E n4 c4) ∧ World.cell? v1 ⟨w.heap.size, 5, none⟩ = some (.slice F k c5) ∧ World.cell? v1 ⟨w.heap.size + 1, 0, none⟩ = some (.slice (some ⟨b1, bo, none⟩) 7 cb) ∧ World.cell? v1 ⟨lb, lo + q1, none⟩ = some (.int .i64 lv) ∧ World.cell? v1 ⟨b1, bo + 6, none⟩ = some (.int .u8 b6) := ⟨HD.out.cells 0 _ rfl, HD.out.cells 1 _ rfl, HD.out.cells 2 _ rfl, HD.out.cells 3 _ rfl, HD.out.cells 4 _ rfl, HD.out.cells 5 _ rfl, HS.out.cells 0 _ rfl, HQ.out, (HL.out.cell (p := ⟨b1, bo + 6, none⟩) hb1).trans hby6⟩
 refine hK.out _ _ hS1 (fun hHeld => ?_)
 clear hK K
 try simp only [Act.put,qk1,qk2,qk3,qk4,qk5,qk6]
 refine takes [6,7] ?_
 refine tkr 11 rfl (fun K hK => ?_)
 go_simp
 go_at_call 27
 refine (HRc.out _).mono ?_
 rintro e v2 ⟨rfl, hs⟩
 have HL := hD (bon HL.out hs)
 have HD := hD (HD.out.below hs)
 have HS := hD (HS.out.below hs)
 have HR := hD (HR.out.below hs)
 have HQ := hD ((hs.cell (p := ⟨lb, lo + q1, none⟩) (Lib.lt_of_cell HQ.out)).trans HQ.out)
 clear hs
 go_wp2_with fail
 have hS2 : World.cell? v2 ⟨w.heap.size, 0, none⟩ = some (.slice A n c) ∧ World.cell? v2 ⟨w.heap.size, 1, none⟩ = some (.slice B n2 c2) ∧ World.cell? v2 ⟨w.heap.size, 2, none⟩ = some (.int .u16 u) ∧ World.cell? v2 ⟨w.heap.size, 3, none⟩ = some (.slice D n3 c3) ∧ World.cell? v2 ⟨w.heap.size, 4, none⟩ = some (.slice E n4 c4) ∧ World.cell? v2 ⟨w.heap.size, 5, none⟩ = some (.slice F k c5) ∧ World.cell? v2 ⟨w.heap.size + 1, 0, none⟩ = some (.slice (some ⟨b1, bo, none⟩) 7 cb) ∧ World.cell? v2 ⟨lb, lo + q1, none⟩ = some (.int .i64 lv) ∧ World.cell? v2 ⟨b1, bo + 6, none⟩ = some (.int .u8 b6) := ⟨HD.out.cells 0 _ rfl, HD.out.cells 1 _ rfl, HD.out.cells 2 _ rfl, HD.out.cells 3 _ rfl, HD.out.cells 4 _ rfl, HD.out.cells 5 _ rfl, HS.out.cells 0 _ rfl, HQ.out, (HL.out.cell (p := ⟨b1, bo + 6, none⟩) hb1).trans hby6⟩
 refine hK.out _ _ hS2 (fun hHeld => ?_)
 clear hK K
 try simp only [Act.put,qk1,qk2,qk3,qk4,qk5,qk6]
 refine tkr 12 rfl (fun K hK => ?_)
 go_simp
 go_at_call 36
 refine (dsame (HC2.out _ (HS.out.cells 0 _ rfl) HL.out)).mono ?_
 rintro e v3 ⟨rfl, hs⟩
 have HL := hD (bon HL.out hs)
 have HD := hD (HD.out.below hs)
 have HS := hD (HS.out.below hs)
 have HR := hD (HR.out.below hs)
 have HQ := hD ((hs.cell (p := ⟨lb, lo + q1, none⟩) (Lib.lt_of_cell HQ.out)).trans HQ.out)
 clear hs
 go_wp2_with fail
 have hS3 : World.cell? v3 ⟨w.heap.size, 0, none⟩ = some (.slice A n c) ∧ World.cell? v3 ⟨w.heap.size, 1, none⟩ = some (.slice B n2 c2) ∧ World.cell? v3 ⟨w.heap.size, 2, none⟩ = some (.int .u16 u) ∧ World.cell? v3 ⟨w.heap.size, 3, none⟩ = some (.slice D n3 c3) ∧ World.cell? v3 ⟨w.heap.size, 4, none⟩ = some (.slice E n4 c4) ∧ World.cell? v3 ⟨w.heap.size, 5, none⟩ = some (.slice F k c5) ∧ World.cell? v3 ⟨w.heap.size + 1, 0, none⟩ = some (.slice (some ⟨b1, bo, none⟩) 7 cb) ∧ World.cell? v3 ⟨lb, lo + q1, none⟩ = some (.int .i64 lv) ∧ World.cell? v3 ⟨b1, bo + 6, none⟩ = some (.int .u8 b6) := ⟨HD.out.cells 0 _ rfl, HD.out.cells 1 _ rfl, HD.out.cells 2 _ rfl, HD.out.cells 3 _ rfl, HD.out.cells 4 _ rfl, HD.out.cells 5 _ rfl, HS.out.cells 0 _ rfl, HQ.out, (HL.out.cell (p := ⟨b1, bo + 6, none⟩) hb1).trans hby6⟩
 refine hK.out _ _ hS3 (fun hHeld => ?_)
 clear hK K
 try simp only [Act.put,qk1,qk2,qk3,qk4,qk5,qk6]
 refine tkr 14 rfl (fun K hK => ?_)
 go_simp
 go_at_call 36
 refine (dsame (HC3.out _ (HS.out.cells 0 _ rfl) HL.out)).mono ?_
 rintro e v4 ⟨rfl, hs⟩
 have HL := hD (bon HL.out hs)
 have HD := hD (HD.out.below hs)
 have HS := hD (HS.out.below hs)
 have HR := hD (HR.out.below hs)
 have HQ := hD ((hs.cell (p := ⟨lb, lo + q1, none⟩) (Lib.lt_of_cell HQ.out)).trans HQ.out)
 clear hs
 go_wp2_with fail
 have hS4 : World.cell? v4 ⟨w.heap.size, 0, none⟩ = some (.slice A n c) ∧ World.cell? v4 ⟨w.heap.size, 1, none⟩ = some (.slice B n2 c2) ∧ World.cell? v4 ⟨w.heap.size, 2, none⟩ = some (.int .u16 u) ∧ World.cell? v4 ⟨w.heap.size, 3, none⟩ = some (.slice D n3 c3) ∧ World.cell? v4 ⟨w.heap.size, 4, none⟩ = some (.slice E n4 c4) ∧ World.cell? v4 ⟨w.heap.size, 5, none⟩ = some (.slice F k c5) ∧ World.cell? v4 ⟨w.heap.size + 1, 0, none⟩ = some (.slice (some ⟨b1, bo, none⟩) 7 cb) ∧ World.cell? v4 ⟨lb, lo + q1, none⟩ = some (.int .i64 lv) ∧ World.cell? v4 ⟨b1, bo + 6, none⟩ = some (.int .u8 b6) := ⟨HD.out.cells 0 _ rfl, HD.out.cells 1 _ rfl, HD.out.cells 2 _ rfl, HD.out.cells 3 _ rfl, HD.out.cells 4 _ rfl, HD.out.cells 5 _ rfl, HS.out.cells 0 _ rfl, HQ.out, (HL.out.cell (p := ⟨b1, bo + 6, none⟩) hb1).trans hby6⟩
 refine hK.out _ _ hS4 (fun hHeld => ?_)
 clear hK K
 try simp only [Act.put,qk1,qk2,qk3,qk4,qk5,qk6]
 refine takes [15] ?_
 refine tkr 17 rfl (fun K hK => ?_)
 go_simp
 go_at_call 36
 refine (dsame (HC4.out _ (HS.out.cells 0 _ rfl) HL.out)).mono ?_
 rintro e v5 ⟨rfl, hs⟩
 have HL := hD (bon HL.out hs)
 have HD := hD (HD.out.below hs)
 have HS := hD (HS.out.below hs)
 have HR := hD (HR.out.below hs)
 have HQ := hD ((hs.cell (p := ⟨lb, lo + q1, none⟩) (Lib.lt_of_cell HQ.out)).trans HQ.out)
 clear hs
 go_wp2_with fail
 have hS5 : World.cell? v5 ⟨w.heap.size, 0, none⟩ = some (.slice A n c) ∧ World.cell? v5 ⟨w.heap.size, 1, none⟩ = some (.slice B n2 c2) ∧ World.cell? v5 ⟨w.heap.size, 2, none⟩ = some (.int .u16 u) ∧ World.cell? v5 ⟨w.heap.size, 3, none⟩ = some (.slice D n3 c3) ∧ World.cell? v5 ⟨w.heap.size, 4, none⟩ = some (.slice E n4 c4) ∧ World.cell? v5 ⟨w.heap.size, 5, none⟩ = some (.slice F k c5) ∧ World.cell? v5 ⟨w.heap.size + 1, 0, none⟩ = some (.slice (some ⟨b1, bo, none⟩) 7 cb) ∧ World.cell? v5 ⟨lb, lo + q1, none⟩ = some (.int .i64 lv) ∧ World.cell? v5 ⟨b1, bo + 6, none⟩ = some (.int .u8 b6) := ⟨HD.out.cells 0 _ rfl, HD.out.cells 1 _ rfl, HD.out.cells 2 _ rfl, HD.out.cells 3 _ rfl, HD.out.cells 4 _ rfl, HD.out.cells 5 _ rfl, HS.out.cells 0 _ rfl, HQ.out, (HL.out.cell (p := ⟨b1, bo + 6, none⟩) hb1).trans hby6⟩
 refine hK.out _ _ hS5 (fun hHeld => ?_)
 clear hK K
 try simp only [Act.put,qk1,qk2,qk3,qk4,qk5,qk6]
 refine tkr 19 rfl (fun K hK => ?_)
 go_simp
 go_at_call 36
 refine (dsame (HC5.out _ (HS.out.cells 0 _ rfl) HL.out)).mono ?_
 rintro e v6 ⟨rfl, hs⟩
 have HL := hD (bon HL.out hs)
 have HD := hD (HD.out.below hs)
 have HS := hD (HS.out.below hs)
 have HR := hD (HR.out.below hs)
 have HQ := hD ((hs.cell (p := ⟨lb, lo + q1, none⟩) (Lib.lt_of_cell HQ.out)).trans HQ.out)
 clear hs
 go_wp2_with fail
 have hS6 : World.cell? v6 ⟨w.heap.size, 0, none⟩ = some (.slice A n c) ∧ World.cell? v6 ⟨w.heap.size, 1, none⟩ = some (.slice B n2 c2) ∧ World.cell? v6 ⟨w.heap.size, 2, none⟩ = some (.int .u16 u) ∧ World.cell? v6 ⟨w.heap.size, 3, none⟩ = some (.slice D n3 c3) ∧ World.cell? v6 ⟨w.heap.size, 4, none⟩ = some (.slice E n4 c4) ∧ World.cell? v6 ⟨w.heap.size, 5, none⟩ = some (.slice F k c5) ∧ World.cell? v6 ⟨w.heap.size + 1, 0, none⟩ = some (.slice (some ⟨b1, bo, none⟩) 7 cb) ∧ World.cell? v6 ⟨lb, lo + q1, none⟩ = some (.int .i64 lv) ∧ World.cell? v6 ⟨b1, bo + 6, none⟩ = some (.int .u8 b6) := ⟨HD.out.cells 0 _ rfl, HD.out.cells 1 _ rfl, HD.out.cells 2 _ rfl, HD.out.cells 3 _ rfl, HD.out.cells 4 _ rfl, HD.out.cells 5 _ rfl, HS.out.cells 0 _ rfl, HQ.out, (HL.out.cell (p := ⟨b1, bo + 6, none⟩) hb1).trans hby6⟩
 refine hK.out _ _ hS6 (fun hHeld => ?_)
 clear hK K
 try simp only [Act.put,qk1,qk2,qk3,qk4,qk5,qk6]
 refine takes [24] ?_
 have z0 := HR.out.cells 0 _ rfl
 have f0 := HR.out.free 0 (by simp)
 have z1 := HR.out.cells 1 _ rfl
 have f1 := HR.out.free 1 (by simp)
 have z2 := HR.out.cells 2 _ rfl
 have f2 := HR.out.free 2 (by simp)
 have z3 := HR.out.cells 3 _ rfl
 have f3 := HR.out.free 3 (by simp)
 have z4 := HR.out.cells 4 _ rfl
 have f4 := HR.out.free 4 (by simp)
 have z5 := HR.out.cells 5 _ rfl
 have f5 := HR.out.free 5 (by simp)
 have z6 := HR.out.cells 6 _ rfl
 have f6 := HR.out.free 6 (by simp)
 have lr := HR.out.lt
 refine tkr 25 rfl (fun K hK => ?_)
 go_simp
 simp only [HW3e.out, HW6e.out, show w.heap.size + 1 + 1 = w.heap.size + 2 from rfl]
 have hL := (((((((HL.out.setCell (p := ⟨w.heap.size + 2, 0, none⟩) hge (.int .i64 kd)).setCell (p := ⟨w.heap.size + 2, 1, none⟩) hge (.int .i64 lv)).setCell (p := ⟨w.heap.size + 2, 2, none⟩) hge (.int .i64 r2)).setCell (p := ⟨w.heap.size + 2, 3, none⟩) hge (.int .i64 r3)).setCell (p := ⟨w.heap.size + 2, 4, none⟩) hge (.int .i64 r4)).setCell (p := ⟨w.heap.size + 2, 5, none⟩) hge (.int .i64 r5)).setCell (p := ⟨w.heap.size + 2, 6, none⟩) hge (.int .i64 b6))
 have hDd := (((((((HD.out.grown (grown_set _ ⟨w.heap.size + 2, 0, none⟩ (.int .i64 kd)) hne0).grown (grown_set _ ⟨w.heap.size + 2, 1, none⟩ (.int .i64 lv)) hne0).grown (grown_set _ ⟨w.heap.size + 2, 2, none⟩ (.int .i64 r2)) hne0).grown (grown_set _ ⟨w.heap.size + 2, 3, none⟩ (.int .i64 r3)) hne0).grown (grown_set _ ⟨w.heap.size + 2, 4, none⟩ (.int .i64 r4)) hne0).grown (grown_set _ ⟨w.heap.size + 2, 5, none⟩ (.int .i64 r5)) hne0).grown (grown_set _ ⟨w.heap.size + 2, 6, none⟩ (.int .i64 b6)) hne0)
 have hS := (((((((HS.out.grown (grown_set _ ⟨w.heap.size + 2, 0, none⟩ (.int .i64 kd)) hne1).grown (grown_set _ ⟨w.heap.size + 2, 1, none⟩ (.int .i64 lv)) hne1).grown (grown_set _ ⟨w.heap.size + 2, 2, none⟩ (.int .i64 r2)) hne1).grown (grown_set _ ⟨w.heap.size + 2, 3, none⟩ (.int .i64 r3)) hne1).grown (grown_set _ ⟨w.heap.size + 2, 4, none⟩ (.int .i64 r4)) hne1).grown (grown_set _ ⟨w.heap.size + 2, 5, none⟩ (.int .i64 r5)) hne1).grown (grown_set _ ⟨w.heap.size + 2, 6, none⟩ (.int .i64 b6)) hne1)
 have hR := (((((((HR.out.set 0 (.int .i64 kd)).set 1 (.int .i64 lv)).set 2 (.int .i64 r2)).set 3 (.int .i64 r3)).set 4 (.int .i64 r4)).set 5 (.int .i64 r5)).set 6 (.int .i64 b6)).eq (cs' := [.int .i64 kd, .int .i64 lv, .int .i64 r2, .int .i64 r3, .int .i64 r4, .int .i64 r5, .int .i64 b6]) rfl
 have hQ := far7 HQ.out hlb (.int .i64 kd) (.int .i64 lv) (.int .i64 r2) (.int .i64 r3) (.int .i64 r4) (.int .i64 r5) (.int .i64 b6)
 clear z0 f0 z1 f1 z2 f2 z3 f3 z4 f4 z5 f5 z6 f6 lr
 have HL := hD hL
 have HD := hD hDd
 have HS := hD hS
 have HR := hD hR
 have HQ := hD hQ
 clear hL hDd hS hR hQ
 generalize (World.setCell (World.setCell (World.setCell (World.setCell (World.setCell (World.setCell (World.setCell v6 ⟨w.heap.size + 2, 0, none⟩ (.int .i64 kd)) ⟨w.heap.size + 2, 1, none⟩ (.int .i64 lv)) ⟨w.heap.size + 2, 2, none⟩ (.int .i64 r2)) ⟨w.heap.size + 2, 3, none⟩ (.int .i64 r3)) ⟨w.heap.size + 2, 4, none⟩ (.int .i64 r4)) ⟨w.heap.size + 2, 5, none⟩ (.int .i64 r5)) ⟨w.heap.size + 2, 6, none⟩ (.int .i64 b6)) = v8 at HL HD HS HR HQ ⊢
 have hS8 : World.cell? v8 ⟨w.heap.size, 0, none⟩ = some (.slice A n c) ∧ World.cell? v8 ⟨w.heap.size, 1, none⟩ = some (.slice B n2 c2) ∧ World.cell? v8 ⟨w.heap.size, 2, none⟩ = some (.int .u16 u) ∧ World.cell? v8 ⟨w.heap.size, 3, none⟩ = some (.slice D n3 c3) ∧ World.cell? v8 ⟨w.heap.size, 4, none⟩ = some (.slice E n4 c4) ∧ World.cell? v8 ⟨w.heap.size, 5, none⟩ = some (.slice F k c5) ∧ World.cell? v8 ⟨w.heap.size + 1, 0, none⟩ = some (.slice (some ⟨b1, bo, none⟩) 7 cb) ∧ World.cell? v8 ⟨lb, lo + q1, none⟩ = some (.int .i64 lv) ∧ World.cell? v8 ⟨b1, bo + 6, none⟩ = some (.int .u8 b6) := ⟨HD.out.cells 0 _ rfl, HD.out.cells 1 _ rfl, HD.out.cells 2 _ rfl, HD.out.cells 3 _ rfl, HD.out.cells 4 _ rfl, HD.out.cells 5 _ rfl, HS.out.cells 0 _ rfl, HQ.out, (HL.out.cell (p := ⟨b1, bo + 6, none⟩) hb1).trans hby6⟩
 refine hK.out _ _ hS8 (fun hHeld => ?_)
 clear hK K
 try simp only [Act.put,qk1,qk2,qk3,qk4,qk5,qk6]
 refine takes [26] ?_
 refine wpAnyH_done (by kernel_rfl) ?_ _
 refine NoPanic.normal ?_
 have y0 := HR.out.cells 0 _ rfl
 have y1 := HR.out.cells 1 _ rfl
 have y2 := HR.out.cells 2 _ rfl
 have y3 := HR.out.cells 3 _ rfl
 have y4 := HR.out.cells 4 _ rfl
 have y5 := HR.out.cells 5 _ rfl
 have y6 := HR.out.cells 6 _ rfl
 go_wp2_with fail
 refine bodyPost_ret (v := .tuple #[.agg #[.int .i64 kd, .int .i64 lv, .int .i64 r2, .int .i64 r3, .int .i64 r4, .int .i64 r5, .int .i64 b6], .int .i64 0]) (by simp [results, Tryz.results14, go_sem, y0, y1, y2, y3, y4, y5, y6]) rfl ⟨by rw [HRes.out], HL.out⟩
open Go.RowKit
set_option maxRecDepth 100000 in
set_option maxHeartbeats 8000000 in
theorem decP_short (A B D E F : Option Addr) (u : Int) (n k c n2 c2 n3 c3 n4 c4 c5 : Nat) (s L cb : Nat) (Ab : Option Addr) (w : World) (hL : L ≠ 7) :
    Calls Tryz.prog 14 #[.agg #[.slice A n c, .slice B n2 c2, .int .u16 u, .slice D n3 c3, .slice E n4 c4, .slice F k c5], .int .u16 (s : Int), .slice Ab L cb] w (RetLie li0 6 w) := by
 have HL0 : Hid (Below w.heap.size w (((w.alloc (.cells #[.slice A n c, .slice B n2 c2, .int .u16 u, .slice D n3 c3, .slice E n4 c4, .slice F k c5] 36)).alloc (.cells #[.slice Ab L cb] 53)).alloc (.cells #[.int .i64 0, .int .i64 0, .int .i64 0, .int .i64 0, .int .i64 0, .int .i64 0, .int .i64 0] 28))) := hD (bon (bon (below_new w _) (below_new _ _)) (below_new _ _))
 have HD0 : Hid (Vz (((w.alloc (.cells #[.slice A n c, .slice B n2 c2, .int .u16 u, .slice D n3 c3, .slice E n4 c4, .slice F k c5] 36)).alloc (.cells #[.slice Ab L cb] 53)).alloc (.cells #[.int .i64 0, .int .i64 0, .int .i64 0, .int .i64 0, .int .i64 0, .int .i64 0, .int .i64 0] 28)) w.heap.size [.slice A n c, .slice B n2 c2, .int .u16 u, .slice D n3 c3, .slice E n4 c4, .slice F k c5]) := hD (((Vz.new w [.slice A n c, .slice B n2 c2, .int .u16 u, .slice D n3 c3, .slice E n4 c4, .slice F k c5] 36).below (below_new _ _)).below (below_new _ _))
 have HS0 : Hid (Vz (((w.alloc (.cells #[.slice A n c, .slice B n2 c2, .int .u16 u, .slice D n3 c3, .slice E n4 c4, .slice F k c5] 36)).alloc (.cells #[.slice Ab L cb] 53)).alloc (.cells #[.int .i64 0, .int .i64 0, .int .i64 0, .int .i64 0, .int .i64 0, .int .i64 0, .int .i64 0] 28)) (w.heap.size + 1) [.slice Ab L cb]) := hD (by
  have h9 := (Vz.new (w.alloc (.cells #[.slice A n c, .slice B n2 c2, .int .u16 u, .slice D n3 c3, .slice E n4 c4, .slice F k c5] 36)) [.slice Ab L cb] 53).below (below_new _ (.cells #[.int .i64 0, .int .i64 0, .int .i64 0, .int .i64 0, .int .i64 0, .int .i64 0, .int .i64 0] 28))
  rw [World.size_alloc] at h9
  exact h9)
 have HR0 : Hid (Vz (((w.alloc (.cells #[.slice A n c, .slice B n2 c2, .int .u16 u, .slice D n3 c3, .slice E n4 c4, .slice F k c5] 36)).alloc (.cells #[.slice Ab L cb] 53)).alloc (.cells #[.int .i64 0, .int .i64 0, .int .i64 0, .int .i64 0, .int .i64 0, .int .i64 0, .int .i64 0] 28)) (w.heap.size + 2) [.int .i64 0, .int .i64 0, .int .i64 0, .int .i64 0, .int .i64 0, .int .i64 0, .int .i64 0]) := hD (by
  have h9 := Vz.new ((w.alloc (.cells #[.slice A n c, .slice B n2 c2, .int .u16 u, .slice D n3 c3, .slice E n4 c4, .slice F k c5] 36)).alloc (.cells #[.slice Ab L cb] 53)) [.int .i64 0, .int .i64 0, .int .i64 0, .int .i64 0, .int .i64 0, .int .i64 0, .int .i64 0] 28
  rw [World.size_alloc, World.size_alloc] at h9
  exact h9)
 obtain ⟨w3, hw3⟩ : ∃ w3, w3 = (((w.alloc (.cells #[.slice A n c, .slice B n2 c2, .int .u16 u, .slice D n3 c3, .slice E n4 c4, .slice F k c5] 36)).alloc (.cells #[.slice Ab L cb] 53)).alloc (.cells #[.int .i64 0, .int .i64 0, .int .i64 0, .int .i64 0, .int .i64 0, .int .i64 0, .int .i64 0] 28)) := ⟨_, rfl⟩
 rw [← hw3] at HL0 HD0 HS0 HR0
 have HW3 : Hid ((((w.alloc (.cells #[.slice A n c, .slice B n2 c2, .int .u16 u, .slice D n3 c3, .slice E n4 c4, .slice F k c5] 36)).alloc (.cells #[.slice Ab L cb] 53)).alloc (.cells #[.int .i64 0, .int .i64 0, .int .i64 0, .int .i64 0, .int .i64 0, .int .i64 0, .int .i64 0] 28)) = w3) := hD hw3.symm
 have e1 : ((L : Int) != 7) = true := by rw [bne_iff_ne]; omega
 clear hw3 hL
 go_enter Tryz.func14, Tryz.ntmps14
 go_upto_region 1 with fail
 refine world_eqA HW3.out ?_
 have x0 := HS0.out.cells 0 _ rfl
 have lx := HS0.out.lt
 have y0 := HR0.out.cells 0 _ rfl
 have g0 := HR0.out.free 0 (by simp)
 have y1 := HR0.out.cells 1 _ rfl
 have g1 := HR0.out.free 1 (by simp)
 have y2 := HR0.out.cells 2 _ rfl
 have g2 := HR0.out.free 2 (by simp)
 have y3 := HR0.out.cells 3 _ rfl
 have g3 := HR0.out.free 3 (by simp)
 have y4 := HR0.out.cells 4 _ rfl
 have g4 := HR0.out.free 4 (by simp)
 have y5 := HR0.out.cells 5 _ rfl
 have g5 := HR0.out.free 5 (by simp)
 have y6 := HR0.out.cells 6 _ rfl
 have g6 := HR0.out.free 6 (by simp)
 have ly := HR0.out.lt
 have hge : w.heap.size ≤ w.heap.size + 2 := by omega
 go_wp2_with fail
 refine bodyPost_ret (v := .tuple #[.agg #[.int .i64 0, .int .i64 0, .int .i64 0, .int .i64 0, .int .i64 0, .int .i64 0, .int .i64 0], .int .i64 6]) (by simp [results, Tryz.results14, go_sem, y0, y1, y2, y3, y4, y5, y6, World.cell?_setCell_same, World.cell?_setCell_other]) rfl ⟨rfl, ?_⟩
 exact ((((((HL0.out.setCell (p := ⟨w.heap.size + 2, 0, none⟩) hge (.int .i64 0)).setCell (p := ⟨w.heap.size + 2, 1, none⟩) hge (.int .i64 0)).setCell (p := ⟨w.heap.size + 2, 2, none⟩) hge (.int .i64 0)).setCell (p := ⟨w.heap.size + 2, 3, none⟩) hge (.int .i64 0)).setCell (p := ⟨w.heap.size + 2, 4, none⟩) hge (.int .i64 0)).setCell (p := ⟨w.heap.size + 2, 5, none⟩) hge (.int .i64 0)).setCell (p := ⟨w.heap.size + 2, 6, none⟩) hge (.int .i64 0)
set_option maxRecDepth 100000 in
set_option maxHeartbeats 8000000 in
theorem decP_none (A B D E F : Option Addr) (u : Int) (n k c n2 c2 n3 c3 n4 c4 c5 : Nat) (s b1 bo cb : Nat) (w : World) (ht : TbE w) (hs : s < 65536) (hn5 : n ≤ 5) (hm : memTo s n = []) :
    Calls Tryz.prog 14 #[.agg #[.slice A n c, .slice B n2 c2, .int .u16 u, .slice D n3 c3, .slice E n4 c4, .slice F k c5], .int .u16 (s : Int), .slice (some ⟨b1, bo, none⟩) 7 cb] w (RetLie li0 9 w) := by
 have HL0 : Hid (Below w.heap.size w (((w.alloc (.cells #[.slice A n c, .slice B n2 c2, .int .u16 u, .slice D n3 c3, .slice E n4 c4, .slice F k c5] 36)).alloc (.cells #[.slice (some ⟨b1, bo, none⟩) 7 cb] 53)).alloc (.cells #[.int .i64 0, .int .i64 0, .int .i64 0, .int .i64 0, .int .i64 0, .int .i64 0, .int .i64 0] 28))) := hD (bon (bon (below_new w _) (below_new _ _)) (below_new _ _))
 have HD0 : Hid (Vz (((w.alloc (.cells #[.slice A n c, .slice B n2 c2, .int .u16 u, .slice D n3 c3, .slice E n4 c4, .slice F k c5] 36)).alloc (.cells #[.slice (some ⟨b1, bo, none⟩) 7 cb] 53)).alloc (.cells #[.int .i64 0, .int .i64 0, .int .i64 0, .int .i64 0, .int .i64 0, .int .i64 0, .int .i64 0] 28)) w.heap.size [.slice A n c, .slice B n2 c2, .int .u16 u, .slice D n3 c3, .slice E n4 c4, .slice F k c5]) := hD (((Vz.new w [.slice A n c, .slice B n2 c2, .int .u16 u, .slice D n3 c3, .slice E n4 c4, .slice F k c5] 36).below (below_new _ _)).below (below_new _ _))
 have HS0 : Hid (Vz (((w.alloc (.cells #[.slice A n c, .slice B n2 c2, .int .u16 u, .slice D n3 c3, .slice E n4 c4, .slice F k c5] 36)).alloc (.cells #[.slice (some ⟨b1, bo, none⟩) 7 cb] 53)).alloc (.cells #[.int .i64 0, .int .i64 0, .int .i64 0, .int .i64 0, .int .i64 0, .int .i64 0, .int .i64 0] 28)) (w.heap.size + 1) [.slice (some ⟨b1, bo, none⟩) 7 cb]) := hD (by
  have h9 := (Vz.new (w.alloc (.cells #[.slice A n c, .slice B n2 c2, .int .u16 u, .slice D n3 c3, .slice E n4 c4, .slice F k c5] 36)) [.slice (some ⟨b1, bo, none⟩) 7 cb] 53).below (below_new _ (.cells #[.int .i64 0, .int .i64 0, .int .i64 0, .int .i64 0, .int .i64 0, .int .i64 0, .int .i64 0] 28))
  rw [World.size_alloc] at h9
  exact h9)
 have HR0 : Hid (Vz (((w.alloc (.cells #[.slice A n c, .slice B n2 c2, .int .u16 u, .slice D n3 c3, .slice E n4 c4, .slice F k c5] 36)).alloc (.cells #[.slice (some ⟨b1, bo, none⟩) 7 cb] 53)).alloc (.cells #[.int .i64 0, .int .i64 0, .int .i64 0, .int .i64 0, .int .i64 0, .int .i64 0, .int .i64 0] 28)) (w.heap.size + 2) [.int .i64 0, .int .i64 0, .int .i64 0, .int .i64 0, .int .i64 0, .int .i64 0, .int .i64 0]) := hD (by
  have h9 := Vz.new ((w.alloc (.cells #[.slice A n c, .slice B n2 c2, .int .u16 u, .slice D n3 c3, .slice E n4 c4, .slice F k c5] 36)).alloc (.cells #[.slice (some ⟨b1, bo, none⟩) 7 cb] 53)) [.int .i64 0, .int .i64 0, .int .i64 0, .int .i64 0, .int .i64 0, .int .i64 0, .int .i64 0] 28
  rw [World.size_alloc, World.size_alloc] at h9
  exact h9)
 obtain ⟨w3, hw3⟩ : ∃ w3, w3 = (((w.alloc (.cells #[.slice A n c, .slice B n2 c2, .int .u16 u, .slice D n3 c3, .slice E n4 c4, .slice F k c5] 36)).alloc (.cells #[.slice (some ⟨b1, bo, none⟩) 7 cb] 53)).alloc (.cells #[.int .i64 0, .int .i64 0, .int .i64 0, .int .i64 0, .int .i64 0, .int .i64 0, .int .i64 0] 28)) := ⟨_, rfl⟩
 rw [← hw3] at HL0 HD0 HS0 HR0
 have HW3 : Hid ((((w.alloc (.cells #[.slice A n c, .slice B n2 c2, .int .u16 u, .slice D n3 c3, .slice E n4 c4, .slice F k c5] 36)).alloc (.cells #[.slice (some ⟨b1, bo, none⟩) 7 cb] 53)).alloc (.cells #[.int .i64 0, .int .i64 0, .int .i64 0, .int .i64 0, .int .i64 0, .int .i64 0, .int .i64 0] 28)) = w3) := hD hw3.symm
 have HM := hD (membersX_any s w3 hs (ht.below HL0.out))
 have HCut : Hid ((memTo s 16).filter (fun x => !decide (n ≤ x)) = []) := hD (by rw [memTo_cut s n 16 (by omega), hm])
 have hs16 := memTo_len s 16
 clear hw3 ht hs hm
 go_enter Tryz.func14, Tryz.ntmps14
 go_upto_region 1 with fail
 refine world_eqA HW3.out ?_
 have x0 := HS0.out.cells 0 _ rfl
 have lx := HS0.out.lt
 obtain ⟨mm, hmm⟩ : ∃ mm, mm = memTo s 16 := ⟨_, rfl⟩
 rw [← hmm] at HM HCut hs16
 clear hmm
 go_wp2_with fail
 refine HM.out.mono ?_
 rintro e w4 ⟨A9, c9, rfl, hown, hb9⟩
 have hsz3 := HR0.out.lt
 have HDl := hD (del_mem w3.heap.size w.heap.size A9 c9 A n c mm w4 hown ((HD0.out.below hb9).cells 0 _ rfl) (by omega) (by omega))
 have HOw : Hid (∀ g, (Value.slice A9 mm.length c9).ownBlock = some g → w3.heap.size ≤ g) := hD (fun g hg => (hown.lt g hg).1)
 have HL1 := hD (bon HL0.out hb9)
 have HR1 := hD (HR0.out.below hb9)
 have HZ3 := hD hsz3
 clear hb9 x0 lx hown hsz3
 go_wp2_with fail
 refine HDl.out.mono ?_
 rintro e w5 ⟨A5, c8, rfl, hrd, hgr, hlo⟩
 rw [HCut.out]
 have hfar : ∀ j, j < w3.heap.size → (Value.slice A9 mm.length c9).ownBlock ≠ some j := fun j hj e => by have := HOw.out j e; omega
 have HL1 := hD (bon_row HL1.out hgr (fun g hg => by have := HOw.out g hg; have := HZ3.out; omega))
 have HR1 := hD (HR1.out.grown hgr (hfar _ (by have := HZ3.out; omega)))
 have HZ5 := hD hgr.size
 clear hrd hgr hfar hlo
 have y0 := HR1.out.cells 0 _ rfl
 have g0 := HR1.out.free 0 (by simp)
 have y1 := HR1.out.cells 1 _ rfl
 have g1 := HR1.out.free 1 (by simp)
 have y2 := HR1.out.cells 2 _ rfl
 have g2 := HR1.out.free 2 (by simp)
 have y3 := HR1.out.cells 3 _ rfl
 have g3 := HR1.out.free 3 (by simp)
 have y4 := HR1.out.cells 4 _ rfl
 have g4 := HR1.out.free 4 (by simp)
 have y5 := HR1.out.cells 5 _ rfl
 have g5 := HR1.out.free 5 (by simp)
 have y6 := HR1.out.cells 6 _ rfl
 have g6 := HR1.out.free 6 (by simp)
 have ly := HR1.out.lt
 have hge : w.heap.size ≤ w.heap.size + 2 := by omega
 go_wp2_with fail
 refine bodyPost_ret (v := .tuple #[.agg #[.int .i64 0, .int .i64 0, .int .i64 0, .int .i64 0, .int .i64 0, .int .i64 0, .int .i64 0], .int .i64 9]) (by simp [results, Tryz.results14, go_sem, y0, y1, y2, y3, y4, y5, y6, World.cell?_setCell_same, World.cell?_setCell_other]) rfl ⟨rfl, ?_⟩
 exact ((((((HL1.out.setCell (p := ⟨w.heap.size + 2, 0, none⟩) hge (.int .i64 0)).setCell (p := ⟨w.heap.size + 2, 1, none⟩) hge (.int .i64 0)).setCell (p := ⟨w.heap.size + 2, 2, none⟩) hge (.int .i64 0)).setCell (p := ⟨w.heap.size + 2, 3, none⟩) hge (.int .i64 0)).setCell (p := ⟨w.heap.size + 2, 4, none⟩) hge (.int .i64 0)).setCell (p := ⟨w.heap.size + 2, 5, none⟩) hge (.int .i64 0)).setCell (p := ⟨w.heap.size + 2, 6, none⟩) hge (.int .i64 0)
theorem decP_any (A B D E F : Option Addr) (u : Int) (n k c n2 c2 n3 c3 n4 c4 c5 : Nat) (s cb : Nat) (Ab : Option Addr) (bs : List Nat) (w : World) (ht : TbE w) (hr : Rd w 1 Ab bs.length (BY bs)) (h256 : ∀ x ∈ bs, x < 256) (hs : s < 65536) (hn : 1 ≤ n) (hn5 : n ≤ 5) (hk : k ≤ 2) :
    Calls Tryz.prog 14 #[.agg #[.slice A n c, .slice B n2 c2, .int .u16 u, .slice D n3 c3, .slice E n4 c4, .slice F k c5], .int .u16 (s : Int), .slice Ab bs.length cb] w (RetLie (decLie n k s bs) (decErr n s bs) w) := by
 unfold decLie decErr decOk
 by_cases h7 : bs.length = 7
 · have hlen : (BY bs).length = 7 := by simp [BY, h7]
   obtain ⟨b1, bo, rfl, hb1, hby⟩ := hr.cells (by omega)
   rw [if_pos h7, decide_eq_true h7, h7]
   cases hm : (memTo s n).isEmpty
   · exact decP_full A B D E F u n k c n2 c2 n3 c3 n4 c4 c5 s b1 bo cb bs w ht hb1 hby h7 h256 hs hn hn5 hk hm
   · exact decP_none A B D E F u n k c n2 c2 n3 c3 n4 c4 c5 s b1 bo cb w ht hs hn5 (List.isEmpty_iff.1 hm)
 · rw [if_neg h7, decide_eq_false h7]
   exact decP_short A B D E F u n k c n2 c2 n3 c3 n4 c4 c5 s bs.length cb Ab w h7
end Go.Proofs.YtikpcebhcnjkhaaGreatDoor
