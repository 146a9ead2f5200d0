/- ref51.seeStatus. -/
import Derived.Deep.MidRow
import Derived.Test.YtikpcebhcnjkhaaGreatDoorSPl
import Derived.Test.YtikpcebhcnjkhaaGreatDoorSAdvSf
namespace Go.Proofs.YtikpcebhcnjkhaaGreatDoor
open Go.RowKit Q40
def RetSts (Bv : Option Addr) (nv dv : Nat) (As : Option Addr) (s0 ss : List St) (w : World) (e : Ending) (w' : World) : Prop := ∃ A c, e = .returned (.agg #[.slice A ss.length c, .slice Bv nv dv]) ∧ Rd w' 12 A ss.length (ss.flatMap stC) ∧ Below w.heap.size w w' ∧ ∀ g, g < w.heap.size → RdN g w 12 As s0.length (s0.flatMap stC) → RdN g w' 12 A ss.length (ss.flatMap stC)
theorem vz_rd {w : World} {b : Nat} {cs : List Value} (h : Vz w b cs) (k n : Nat) (hl : cs.length = n * k) : Rd w k (some ⟨b, 0, none⟩) n cs := ⟨hl, fun _ => ⟨b, 0, rfl, h.lt, fun j u hu => by rw [Nat.zero_add]; exact h.cells j u hu⟩⟩
set_option maxRecDepth 100000 in
set_option maxHeartbeats 16000000 in
theorem refSeeS_any (As Bv : Option Addr) (nv cs dv : Nat) (ss : List St) (x : St) (w : World) (hss : Rd w 12 As ss.length (ss.flatMap stC)) (hso : ∀ y ∈ ss, y.ok w ∧ y.sz ≤ 16777216) (hx : x.ok w ∧ x.sz ≤ 16777216) (hl : ss.length ≤ 1048576) :
    Calls Tryz.prog 47 #[.agg #[.slice As ss.length cs, .slice Bv nv dv], .agg #[.int .i64 x.server, .int .i64 x.view, .int .i64 x.length, .int .i64 x.lockView, .string ⟨x.lock.toArray⟩, .slice x.cert.a x.cert.l.length x.cert.c, .int .i64 x.signed.server, .int .i64 x.signed.kind, .int .i64 x.signed.view, .int .i64 x.signed.slot, .string ⟨x.signed.digest.toArray⟩, .string ⟨x.signed.sig.toArray⟩]] w (RetSts Bv nv dv As ss (seeSt ss x) w) := by
 have HL0 : Hid (Below w.heap.size w (((w.alloc (.cells #[.slice As ss.length cs, .slice Bv nv dv] 59)).alloc (.cells #[.int .i64 x.server, .int .i64 x.view, .int .i64 x.length, .int .i64 x.lockView, .string ⟨x.lock.toArray⟩, .slice x.cert.a x.cert.l.length x.cert.c, .int .i64 x.signed.server, .int .i64 x.signed.kind, .int .i64 x.signed.view, .int .i64 x.signed.slot, .string ⟨x.signed.digest.toArray⟩, .string ⟨x.signed.sig.toArray⟩] 62)).alloc (.cells #[.slice none 0 0, .slice none 0 0] 59))) := hD (bon (bon (below_new w _) (below_new _ _)) (below_new _ _))
 have HZ0 : Hid (Vz (((w.alloc (.cells #[.slice As ss.length cs, .slice Bv nv dv] 59)).alloc (.cells #[.int .i64 x.server, .int .i64 x.view, .int .i64 x.length, .int .i64 x.lockView, .string ⟨x.lock.toArray⟩, .slice x.cert.a x.cert.l.length x.cert.c, .int .i64 x.signed.server, .int .i64 x.signed.kind, .int .i64 x.signed.view, .int .i64 x.signed.slot, .string ⟨x.signed.digest.toArray⟩, .string ⟨x.signed.sig.toArray⟩] 62)).alloc (.cells #[.slice none 0 0, .slice none 0 0] 59)) w.heap.size [.slice As ss.length cs, .slice Bv nv dv]) := hD (((Vz.new w [.slice As ss.length cs, .slice Bv nv dv] 59).below (below_new _ _)).below (below_new _ _))
 have HX0 : Hid (Vz (((w.alloc (.cells #[.slice As ss.length cs, .slice Bv nv dv] 59)).alloc (.cells #[.int .i64 x.server, .int .i64 x.view, .int .i64 x.length, .int .i64 x.lockView, .string ⟨x.lock.toArray⟩, .slice x.cert.a x.cert.l.length x.cert.c, .int .i64 x.signed.server, .int .i64 x.signed.kind, .int .i64 x.signed.view, .int .i64 x.signed.slot, .string ⟨x.signed.digest.toArray⟩, .string ⟨x.signed.sig.toArray⟩] 62)).alloc (.cells #[.slice none 0 0, .slice none 0 0] 59)) (w.heap.size + 1) [.int .i64 x.server, .int .i64 x.view, .int .i64 x.length, .int .i64 x.lockView, .string ⟨x.lock.toArray⟩, .slice x.cert.a x.cert.l.length x.cert.c, .int .i64 x.signed.server, .int .i64 x.signed.kind, .int .i64 x.signed.view, .int .i64 x.signed.slot, .string ⟨x.signed.digest.toArray⟩, .string ⟨x.signed.sig.toArray⟩]) := hD (by
  have h9 := (Vz.new (w.alloc (.cells #[.slice As ss.length cs, .slice Bv nv dv] 59)) [.int .i64 x.server, .int .i64 x.view, .int .i64 x.length, .int .i64 x.lockView, .string ⟨x.lock.toArray⟩, .slice x.cert.a x.cert.l.length x.cert.c, .int .i64 x.signed.server, .int .i64 x.signed.kind, .int .i64 x.signed.view, .int .i64 x.signed.slot, .string ⟨x.signed.digest.toArray⟩, .string ⟨x.signed.sig.toArray⟩] 62).below (below_new _ (.cells #[.slice none 0 0, .slice none 0 0] 59))
  rw [World.size_alloc] at h9
  exact h9)
 have HR0 : Hid (Vz (((w.alloc (.cells #[.slice As ss.length cs, .slice Bv nv dv] 59)).alloc (.cells #[.int .i64 x.server, .int .i64 x.view, .int .i64 x.length, .int .i64 x.lockView, .string ⟨x.lock.toArray⟩, .slice x.cert.a x.cert.l.length x.cert.c, .int .i64 x.signed.server, .int .i64 x.signed.kind, .int .i64 x.signed.view, .int .i64 x.signed.slot, .string ⟨x.signed.digest.toArray⟩, .string ⟨x.signed.sig.toArray⟩] 62)).alloc (.cells #[.slice none 0 0, .slice none 0 0] 59)) (w.heap.size + 2) [.slice none 0 0, .slice none 0 0]) := hD (by
  have h9 := Vz.new ((w.alloc (.cells #[.slice As ss.length cs, .slice Bv nv dv] 59)).alloc (.cells #[.int .i64 x.server, .int .i64 x.view, .int .i64 x.length, .int .i64 x.lockView, .string ⟨x.lock.toArray⟩, .slice x.cert.a x.cert.l.length x.cert.c, .int .i64 x.signed.server, .int .i64 x.signed.kind, .int .i64 x.signed.view, .int .i64 x.signed.slot, .string ⟨x.signed.digest.toArray⟩, .string ⟨x.signed.sig.toArray⟩] 62)) [.slice none 0 0, .slice none 0 0] 59
  rw [World.size_alloc, World.size_alloc] at h9
  exact h9)
 obtain ⟨w3, hw3⟩ : ∃ w3, w3 = (((w.alloc (.cells #[.slice As ss.length cs, .slice Bv nv dv] 59)).alloc (.cells #[.int .i64 x.server, .int .i64 x.view, .int .i64 x.length, .int .i64 x.lockView, .string ⟨x.lock.toArray⟩, .slice x.cert.a x.cert.l.length x.cert.c, .int .i64 x.signed.server, .int .i64 x.signed.kind, .int .i64 x.signed.view, .int .i64 x.signed.slot, .string ⟨x.signed.digest.toArray⟩, .string ⟨x.signed.sig.toArray⟩] 62)).alloc (.cells #[.slice none 0 0, .slice none 0 0] 59)) := ⟨_, rfl⟩
 rw [← hw3] at HL0 HZ0 HX0 HR0
 have HW3 : Hid ((((w.alloc (.cells #[.slice As ss.length cs, .slice Bv nv dv] 59)).alloc (.cells #[.int .i64 x.server, .int .i64 x.view, .int .i64 x.length, .int .i64 x.lockView, .string ⟨x.lock.toArray⟩, .slice x.cert.a x.cert.l.length x.cert.c, .int .i64 x.signed.server, .int .i64 x.signed.kind, .int .i64 x.signed.view, .int .i64 x.signed.slot, .string ⟨x.signed.digest.toArray⟩, .string ⟨x.signed.sig.toArray⟩] 62)).alloc (.cells #[.slice none 0 0, .slice none 0 0] 59)) = w3) := hD hw3.symm
 have HSs : Hid (∀ W, Below w.heap.size w W → Rd W 12 As ss.length (ss.flatMap stC)) := hD (fun W hb => hss.below hb)
 have HEqA : Hid (∀ y ∈ ss, ∀ W, Below w.heap.size w W → Calls Tryz.prog 39 #[.agg (stC y).toArray, .agg (stC x).toArray] W (RetBool (sameSt x y) W)) := hD (fun y hy W hb => by
  have h9 := refEqualStatus_any y x W (St.below (hso y hy).1 hb) (St.below hx.1 hb) (hso y hy).2 hx.2
  rw [same_enc x y W (St.below hx.1 hb) (St.below (hso y hy).1 hb) hx.2 (hso y hy).2] at h9
  exact h9)
 clear hw3 hss hso hx
 go_enter Tryz.func47, Tryz.ntmps47
 go_upto_region 1 with fail
 refine world_eqA HW3.out ?_
 have HL := HL0
 have HZ := HZ0
 have HXx := HX0
 have HRr := HR0
 clear HW3
 by_cases h60 : ss.length < 60
 · have h61 : (ss.length : Int) < 60 := by omega
   have h62 : ¬ (60 : Int) ≤ (ss.length : Int) := by omega
   have HVu : Hid (seeSt ss x = if ss.any (sameSt x) then ss else ss ++ [x]) := hD (by unfold seeSt; rw [decide_eq_true h60]; cases ss.any (sameSt x) <;> rfl)
   have z0 := HZ.out.cells 0 _ rfl
   have lz := HZ.out.lt
   go_wp2_with fail
   go_loopw [5] (fun i wr => ∃ k : Nat, i = .int .i64 k ∧ k ≤ ss.length ∧ (ss.take k).any (sameSt x) = false ∧ Below w.heap.size w wr ∧ Vz wr w.heap.size [.slice As ss.length cs, .slice Bv nv dv] ∧ Vz wr (w.heap.size + 1) [.int .i64 x.server, .int .i64 x.view, .int .i64 x.length, .int .i64 x.lockView, .string ⟨x.lock.toArray⟩, .slice x.cert.a x.cert.l.length x.cert.c, .int .i64 x.signed.server, .int .i64 x.signed.kind, .int .i64 x.signed.view, .int .i64 x.signed.slot, .string ⟨x.signed.digest.toArray⟩, .string ⟨x.signed.sig.toArray⟩] ∧ Vz wr (w.heap.size + 2) [.slice none 0 0, .slice none 0 0]) (fun i _ => ss.length - (intOf i).toNat)
   case atStart => exact ⟨0, rfl, by omega, by simp, HL.out, HZ.out, HXx.out, HRr.out⟩
   case round =>
    obtain ⟨k, rfl, hk, hm, hbl, hz, hxx, hrr⟩ := hrel
    have HM := hD hm
    have HL := hD hbl
    have HZ := hD hz
    have HXx := hD hxx
    have HRr := hD hrr
    clear hm hbl hz hxx hrr z0 lz
    have z0 := HZ.out.cells 0 _ rfl
    have lz := HZ.out.lt
    by_cases hlt : k < ss.length
    · have i0' : (0 : Int) ≤ (k : Int) := by omega
      have i1 : (k : Int) < (ss.length : Int) := by omega
      obtain ⟨b, off, rfl, hg, hcc⟩ := Rd.at (HSs.out w (Below.refl _ _)) stC_len (by decide) hlt
      have HS := hD (any_succ ss (sameSt x) k hlt)
      have HEq := hD (HEqA.out ss[k] (List.getElem_mem hlt))
      have hin := List.getElem_mem hlt
      obtain ⟨y, hy⟩ : ∃ y, y = ss[k] := ⟨_, rfl⟩
      rw [← hy] at hcc HEq HS hin
      have HYr : Hid (∀ W, Below w.heap.size w W → World.rangeAt W b (off + k * 12) (stC y)) := hD (fun W hW j v hj => hcc W hW j v hj)
      have HIn := hD hin
      clear hcc hy hg hin
      go_upto_region 6 with fail
      clear z0 lz
      refine wp_region_noPanic ?_
      have HL : Hid (Below w.heap.size w wr.drew) := hD (bon HL.out (Below.refl _ _).drew)
      have HZ : Hid (Vz wr.drew w.heap.size [.slice (some ⟨b, off, none⟩) ss.length cs, .slice Bv nv dv]) := hD (HZ.out.below (Below.refl _ _).drew)
      have HXx : Hid (Vz wr.drew (w.heap.size + 1) [.int .i64 x.server, .int .i64 x.view, .int .i64 x.length, .int .i64 x.lockView, .string ⟨x.lock.toArray⟩, .slice x.cert.a x.cert.l.length x.cert.c, .int .i64 x.signed.server, .int .i64 x.signed.kind, .int .i64 x.signed.view, .int .i64 x.signed.slot, .string ⟨x.signed.digest.toArray⟩, .string ⟨x.signed.sig.toArray⟩]) := hD (HXx.out.below (Below.refl _ _).drew)
      have HRr : Hid (Vz wr.drew (w.heap.size + 2) [.slice none 0 0, .slice none 0 0]) := hD (HRr.out.below (Below.refl _ _).drew)
      generalize hv : wr.drew = v0 at HL HZ HXx HRr
      have hS0 : World.cell? v0 ⟨w.heap.size, 0, none⟩ = some (.slice (some ⟨b, off, none⟩) ss.length cs) ∧ World.rangeAt v0 b (off + k * 12) (stC y) ∧ World.rangeAt v0 (w.heap.size + 1) 0 (stC x) := ⟨HZ.out.cells 0 _ rfl, HYr.out _ HL.out, HXx.out.range⟩
      refine wp_region_held_drew (S := fun W => World.cell? W ⟨w.heap.size, 0, none⟩ = some (.slice (some ⟨b, off, none⟩) ss.length cs) ∧ World.rangeAt W b (off + k * 12) (stC y) ∧ World.rangeAt W (w.heap.size + 1) 0 (stC x)) (by kernel_rfl) (by rw [hv]; exact hS0) (fun hHeld => ?_)
      rw [hv] at hHeld ⊢
      clear hv
      refine takes [0,1,2,3] ?_
      refine tkq 4 rfl (yieldsIf_load_mid (by rfl) 62 _ (by rfl) _ _ (by rfl) (stC y) _ (fun W h => h.2.1) Tryz.underlying62 rfl (infoStn y)) (by assumption) ?_
      try simp only [Act.put,qk1,qk2,qk3,qk4,qk5,qk6]
      refine tkq 5 rfl (yieldsIf_load_mid (by rfl) 62 _ (by rfl) _ _ (by rfl) (stC x) _ (fun W h => h.2.2) Tryz.underlying62 rfl (infoStn x)) (by assumption) ?_
      try simp only [Act.put,qk1,qk2,qk3,qk4,qk5,qk6]
      refine tkr 6 rfl (fun K hK => ?_)
      go_simp
      go_at_call 39
      refine (HEq.out _ HL.out).mono ?_
      rintro e v1 ⟨rfl, hs⟩
      have HL := hD (bon HL.out hs)
      have HZ := hD (HZ.out.below hs)
      have HXx := hD (HXx.out.below hs)
      have HRr := hD (HRr.out.below hs)
      clear hs
      go_wp2_with fail
      have hS1 : World.cell? v1 ⟨w.heap.size, 0, none⟩ = some (.slice (some ⟨b, off, none⟩) ss.length cs) ∧ World.rangeAt v1 b (off + k * 12) (stC y) ∧ World.rangeAt v1 (w.heap.size + 1) 0 (stC x) := ⟨HZ.out.cells 0 _ rfl, HYr.out _ HL.out, HXx.out.range⟩
      refine hK.out _ _ hS1 (fun hHeld => ?_)
      clear hK K
      try simp only [Act.put,qk1,qk2,qk3,qk4,qk5,qk6]
      refine wpAnyH_done (by kernel_rfl) ?_ _
      refine NoPanic.normal ?_
      clear hS0 hS1 hHeld
      cases hq : sameSt x y
      · have HF : Hid ((ss.take (k + 1)).any (sameSt x) = false) := hD (by rw [HS.out, HM.out, hq]; rfl)
        clear hq
        go_wp2_with fail
        go_roundw
        case rel => exact ⟨k + 1, by go_num, by omega, HF.out, HL.out, HZ.out, HXx.out, HRr.out⟩
        case measure => simp [intOf]; omega
      · have HV2 : Hid (seeSt ss x = ss) := hD (by
          rw [HVu.out, if_pos (List.any_eq_true.2 ⟨y, HIn.out, hq⟩)])
        clear hq
        have z0 := HZ.out.cells 0 _ rfl
        have z1 := HZ.out.cells 1 _ rfl
        have lz := HZ.out.lt
        have y0 := HRr.out.cells 0 _ rfl
        have y1 := HRr.out.cells 1 _ rfl
        have e0 := HRr.out.free 0 (by simp)
        have e1 := HRr.out.free 1 (by simp)
        have ly := HRr.out.lt
        have hge : w.heap.size ≤ w.heap.size + 2 := by omega
        have HLw := hD ((HL.out.setCell (p := ⟨w.heap.size + 2, 0, none⟩) hge (.slice (some ⟨b, off, none⟩) ss.length cs)).setCell (p := ⟨w.heap.size + 2, 1, none⟩) hge (.slice Bv nv dv))
        go_wp2_with fail
        refine bodyPost_ret (v := .agg #[.slice (some ⟨b, off, none⟩) ss.length cs, .slice Bv nv dv]) (by simp [results, Tryz.results47, go_sem, y0, y1]) rfl ?_
        rw [HV2.out]
        exact ⟨some ⟨b, off, none⟩, cs, rfl, HSs.out _ HLw.out, HLw.out, fun g _ h => h.below HLw.out⟩
    · obtain rfl : k = ss.length := by omega
      have HV2 : Hid (seeSt ss x = ss ++ [x]) := hD (by
       have h1 := HM.out
       rw [List.take_length] at h1
       rw [HVu.out, h1]; rfl)
      clear h60
      go_upto_region 8 with fail
      clear z0 lz
      go_cut [] from 26 to 33 (fun wx => ∃ (A2 : Option Addr) (c2 : Nat), Below w.heap.size w wx ∧ Vz wx w.heap.size [.slice A2 (ss.length + 1) c2, .slice Bv nv dv] ∧ Vz wx (w.heap.size + 2) [.slice none 0 0, .slice none 0 0] ∧ wx.ownsRow (w.heap.size + 3) 62 12 (.slice A2 (ss.length + 1) c2) (ss.length + 1) ((ss ++ [x]).flatMap stC))
      case rest =>
       obtain ⟨A2, c2, hbl, hz, hrr, hown⟩ := hcut
       rename World => w9
       have HL := hD hbl
       have HZ := hD hz
       have HRr := hD hrr
       have HO := hD hown
       clear hbl hz hrr hown
       have z0 := HZ.out.cells 0 _ rfl
       have z1 := HZ.out.cells 1 _ rfl
       have lz := HZ.out.lt
       have y0 := HRr.out.cells 0 _ rfl
       have y1 := HRr.out.cells 1 _ rfl
       have e0 := HRr.out.free 0 (by simp)
       have e1 := HRr.out.free 1 (by simp)
       have ly := HRr.out.lt
       have hge : w.heap.size ≤ w.heap.size + 2 := by omega
       have HLw := hD ((HL.out.setCell (p := ⟨w.heap.size + 2, 0, none⟩) hge (.slice A2 (ss.length + 1) c2)).setCell (p := ⟨w.heap.size + 2, 1, none⟩) hge (.slice Bv nv dv))
       go_wp2_with fail
       refine bodyPost_ret (v := .agg #[.slice A2 (ss.length + 1) c2, .slice Bv nv dv]) (by simp [results, Tryz.results47, go_sem, y0, y1]) rfl ?_
       rw [HV2.out]
       have ho9 := own_far (own_far HO.out ⟨w.heap.size + 2, 0, none⟩ (.slice A2 (ss.length + 1) c2) (by show w.heap.size + 2 < _; omega)) ⟨w.heap.size + 2, 1, none⟩ (.slice Bv nv dv) (by show w.heap.size + 2 < _; omega)
       exact ⟨A2, c2, by simp, by rw [List.length_append]; exact Rd.own ho9, HLw.out, fun g hg _ => by rw [List.length_append]; exact RdN.own ho9 (by omega)⟩
      refine wp_region_noPanic ?_
      have HL : Hid (Below w.heap.size w wr.drew) := hD (bon HL.out (Below.refl _ _).drew)
      have HZ : Hid (Vz wr.drew w.heap.size [.slice As ss.length cs, .slice Bv nv dv]) := hD (HZ.out.below (Below.refl _ _).drew)
      have HXx : Hid (Vz wr.drew (w.heap.size + 1) [.int .i64 x.server, .int .i64 x.view, .int .i64 x.length, .int .i64 x.lockView, .string ⟨x.lock.toArray⟩, .slice x.cert.a x.cert.l.length x.cert.c, .int .i64 x.signed.server, .int .i64 x.signed.kind, .int .i64 x.signed.view, .int .i64 x.signed.slot, .string ⟨x.signed.digest.toArray⟩, .string ⟨x.signed.sig.toArray⟩]) := hD (HXx.out.below (Below.refl _ _).drew)
      have HRr : Hid (Vz wr.drew (w.heap.size + 2) [.slice none 0 0, .slice none 0 0]) := hD (HRr.out.below (Below.refl _ _).drew)
      generalize hv : wr.drew = v0 at HL HZ HXx HRr
      have hS0 : World.cell? v0 ⟨w.heap.size + 1, 0, none⟩ = some (.int .i64 x.server) ∧ World.cell? v0 ⟨w.heap.size + 1, 1, none⟩ = some (.int .i64 x.view) ∧ World.cell? v0 ⟨w.heap.size + 1, 2, none⟩ = some (.int .i64 x.length) ∧ World.cell? v0 ⟨w.heap.size + 1, 3, none⟩ = some (.int .i64 x.lockView) ∧ World.cell? v0 ⟨w.heap.size + 1, 4, none⟩ = some (.string ⟨x.lock.toArray⟩) ∧ World.cell? v0 ⟨w.heap.size + 1, 5, none⟩ = some (.slice x.cert.a x.cert.l.length x.cert.c) ∧ World.cell? v0 ⟨w.heap.size + 1, 6, none⟩ = some (.int .i64 x.signed.server) ∧ World.cell? v0 ⟨w.heap.size + 1, 7, none⟩ = some (.int .i64 x.signed.kind) ∧ World.cell? v0 ⟨w.heap.size + 1, 8, none⟩ = some (.int .i64 x.signed.view) ∧ World.cell? v0 ⟨w.heap.size + 1, 9, none⟩ = some (.int .i64 x.signed.slot) ∧ World.cell? v0 ⟨w.heap.size + 1, 10, none⟩ = some (.string ⟨x.signed.digest.toArray⟩) ∧ World.cell? v0 ⟨w.heap.size + 1, 11, none⟩ = some (.string ⟨x.signed.sig.toArray⟩) := ⟨HXx.out.cells 0 _ rfl, HXx.out.cells 1 _ rfl, HXx.out.cells 2 _ rfl, HXx.out.cells 3 _ rfl, HXx.out.cells 4 _ rfl, HXx.out.cells 5 _ rfl, HXx.out.cells 6 _ rfl, HXx.out.cells 7 _ rfl, HXx.out.cells 8 _ rfl, HXx.out.cells 9 _ rfl, HXx.out.cells 10 _ rfl, HXx.out.cells 11 _ rfl⟩
      refine wp_region_held_drew (S := fun W => World.cell? W ⟨w.heap.size + 1, 0, none⟩ = some (.int .i64 x.server) ∧ World.cell? W ⟨w.heap.size + 1, 1, none⟩ = some (.int .i64 x.view) ∧ World.cell? W ⟨w.heap.size + 1, 2, none⟩ = some (.int .i64 x.length) ∧ World.cell? W ⟨w.heap.size + 1, 3, none⟩ = some (.int .i64 x.lockView) ∧ World.cell? W ⟨w.heap.size + 1, 4, none⟩ = some (.string ⟨x.lock.toArray⟩) ∧ World.cell? W ⟨w.heap.size + 1, 5, none⟩ = some (.slice x.cert.a x.cert.l.length x.cert.c) ∧ World.cell? W ⟨w.heap.size + 1, 6, none⟩ = some (.int .i64 x.signed.server) ∧ World.cell? W ⟨w.heap.size + 1, 7, none⟩ = some (.int .i64 x.signed.kind) ∧ World.cell? W ⟨w.heap.size + 1, 8, none⟩ = some (.int .i64 x.signed.view) ∧ World.cell? W ⟨w.heap.size + 1, 9, none⟩ = some (.int .i64 x.signed.slot) ∧ World.cell? W ⟨w.heap.size + 1, 10, none⟩ = some (.string ⟨x.signed.digest.toArray⟩) ∧ World.cell? W ⟨w.heap.size + 1, 11, none⟩ = some (.string ⟨x.signed.sig.toArray⟩)) (by kernel_rfl) (by rw [hv]; exact hS0) (fun hHeld => ?_)
      rw [hv] at hHeld ⊢
      clear hv
      refine takes [1,4] ?_
      refine wpAnyH_ready (rs := [0, 2, 5]) (by kernel_rfl) (by simp) ?_
      refine AllReadyH.cons (o := _) rfl (fun K hK => ?_) (AllReadyH.cons (o := _) rfl (fun K hK => ?_) (AllReadyH.cons (o := _) rfl (fun K hK => ?_) AllReadyH.nil))
      · go_simp
        have hs := below_new v0 (.cells #[] 62)
        have hsz : w.heap.size + 3 ≤ (World.heap v0).size := HRr.out.lt
        have HO0 : Hid (World.ownsRow (World.alloc v0 (.cells #[] 62)) (w.heap.size + 3) 62 12 (.slice (some ⟨(World.heap v0).size, 0, none⟩) 0 0) 0 []) := hD (World.ownsRow_lit (base := w.heap.size + 3) (e := 62) (size := 12) v0 #[] 0 hsz (by simp) rfl)
        have HL := hD (bon HL.out hs)
        have HZ := hD (HZ.out.below hs)
        have HXx := hD (HXx.out.below hs)
        have HRr := hD (HRr.out.below hs)
        clear hs hsz
        generalize World.alloc v0 (.cells #[] 62) = v1 at HL HZ HXx HRr HO0 ⊢
        generalize (World.heap v0).size = g0 at HO0 ⊢
        have hS1 : World.cell? v1 ⟨w.heap.size + 1, 0, none⟩ = some (.int .i64 x.server) ∧ World.cell? v1 ⟨w.heap.size + 1, 1, none⟩ = some (.int .i64 x.view) ∧ World.cell? v1 ⟨w.heap.size + 1, 2, none⟩ = some (.int .i64 x.length) ∧ World.cell? v1 ⟨w.heap.size + 1, 3, none⟩ = some (.int .i64 x.lockView) ∧ World.cell? v1 ⟨w.heap.size + 1, 4, none⟩ = some (.string ⟨x.lock.toArray⟩) ∧ World.cell? v1 ⟨w.heap.size + 1, 5, none⟩ = some (.slice x.cert.a x.cert.l.length x.cert.c) ∧ World.cell? v1 ⟨w.heap.size + 1, 6, none⟩ = some (.int .i64 x.signed.server) ∧ World.cell? v1 ⟨w.heap.size + 1, 7, none⟩ = some (.int .i64 x.signed.kind) ∧ World.cell? v1 ⟨w.heap.size + 1, 8, none⟩ = some (.int .i64 x.signed.view) ∧ World.cell? v1 ⟨w.heap.size + 1, 9, none⟩ = some (.int .i64 x.signed.slot) ∧ World.cell? v1 ⟨w.heap.size + 1, 10, none⟩ = some (.string ⟨x.signed.digest.toArray⟩) ∧ World.cell? v1 ⟨w.heap.size + 1, 11, none⟩ = some (.string ⟨x.signed.sig.toArray⟩) := ⟨HXx.out.cells 0 _ rfl, HXx.out.cells 1 _ rfl, HXx.out.cells 2 _ rfl, HXx.out.cells 3 _ rfl, HXx.out.cells 4 _ rfl, HXx.out.cells 5 _ rfl, HXx.out.cells 6 _ rfl, HXx.out.cells 7 _ rfl, HXx.out.cells 8 _ rfl, HXx.out.cells 9 _ rfl, HXx.out.cells 10 _ rfl, HXx.out.cells 11 _ rfl⟩
        refine hK.out _ _ hS1 (fun hHeld => ?_)
        clear hK K
        try simp only [Act.put,qk1,qk2,qk3,qk4,qk5,qk6]
        refine wpAnyH_ready (rs := [2, 5]) (by kernel_rfl) (by simp) ?_
        refine AllReadyH.cons (o := _) rfl (fun K hK => ?_) (AllReadyH.cons (o := _) rfl (fun K hK => ?_) AllReadyH.nil)
        · have z0 := HZ.out.cells 0 _ rfl
          have lz := HZ.out.lt
          go_simp
          clear z0 lz
          have hq1 : World.cell? v1 ⟨w.heap.size + 1, 0, none⟩ = some (.int .i64 x.server) ∧ World.cell? v1 ⟨w.heap.size + 1, 1, none⟩ = some (.int .i64 x.view) ∧ World.cell? v1 ⟨w.heap.size + 1, 2, none⟩ = some (.int .i64 x.length) ∧ World.cell? v1 ⟨w.heap.size + 1, 3, none⟩ = some (.int .i64 x.lockView) ∧ World.cell? v1 ⟨w.heap.size + 1, 4, none⟩ = some (.string ⟨x.lock.toArray⟩) ∧ World.cell? v1 ⟨w.heap.size + 1, 5, none⟩ = some (.slice x.cert.a x.cert.l.length x.cert.c) ∧ World.cell? v1 ⟨w.heap.size + 1, 6, none⟩ = some (.int .i64 x.signed.server) ∧ World.cell? v1 ⟨w.heap.size + 1, 7, none⟩ = some (.int .i64 x.signed.kind) ∧ World.cell? v1 ⟨w.heap.size + 1, 8, none⟩ = some (.int .i64 x.signed.view) ∧ World.cell? v1 ⟨w.heap.size + 1, 9, none⟩ = some (.int .i64 x.signed.slot) ∧ World.cell? v1 ⟨w.heap.size + 1, 10, none⟩ = some (.string ⟨x.signed.digest.toArray⟩) ∧ World.cell? v1 ⟨w.heap.size + 1, 11, none⟩ = some (.string ⟨x.signed.sig.toArray⟩) := ⟨HXx.out.cells 0 _ rfl, HXx.out.cells 1 _ rfl, HXx.out.cells 2 _ rfl, HXx.out.cells 3 _ rfl, HXx.out.cells 4 _ rfl, HXx.out.cells 5 _ rfl, HXx.out.cells 6 _ rfl, HXx.out.cells 7 _ rfl, HXx.out.cells 8 _ rfl, HXx.out.cells 9 _ rfl, HXx.out.cells 10 _ rfl, HXx.out.cells 11 _ rfl⟩
          refine hK.out _ _ hq1 (fun hHeld => ?_)
          clear hK K hq1
          try simp only [Act.put,qk1,qk2,qk3,qk4,qk5,qk6]
          refine wpAnyH_ready (rs := [3, 5]) (by kernel_rfl) (by simp) ?_
          refine AllReadyH.cons (o := _) rfl (fun K hK => ?_) (AllReadyH.cons (o := _) rfl (fun K hK => ?_) AllReadyH.nil)
          · refine step_apg elemSt rfl _ _ (by rfl) (w.heap.size + 3) (by rfl) HO0.out (by rfl) (HSs.out _ HL.out) (stC_one ss) (by omega) (by omega) HRr.out.lt ?_
            intro A1 c1 v2 hown hgr
            have hl := fun g hg => (HO0.out.lt g hg).1
            have HO1 : Hid (World.ownsRow v2 (w.heap.size + 3) 62 12 (.slice A1 ss.length c1) ss.length (ss.flatMap stC)) := hD (by simpa using hown)
            have HL := hD (below_grown HL.out HL.out.size hgr (fun g hg => by have := hl g hg; omega))
            have HZ := hD (HZ.out.grown hgr (fun e => by have := hl _ e; omega))
            have HXx := hD (HXx.out.grown hgr (fun e => by have := hl _ e; omega))
            have HRr := hD (HRr.out.grown hgr (fun e => by have := hl _ e; omega))
            clear hown hgr hl
            try simp only [Nat.zero_add]
            have hS2 : World.cell? v2 ⟨w.heap.size + 1, 0, none⟩ = some (.int .i64 x.server) ∧ World.cell? v2 ⟨w.heap.size + 1, 1, none⟩ = some (.int .i64 x.view) ∧ World.cell? v2 ⟨w.heap.size + 1, 2, none⟩ = some (.int .i64 x.length) ∧ World.cell? v2 ⟨w.heap.size + 1, 3, none⟩ = some (.int .i64 x.lockView) ∧ World.cell? v2 ⟨w.heap.size + 1, 4, none⟩ = some (.string ⟨x.lock.toArray⟩) ∧ World.cell? v2 ⟨w.heap.size + 1, 5, none⟩ = some (.slice x.cert.a x.cert.l.length x.cert.c) ∧ World.cell? v2 ⟨w.heap.size + 1, 6, none⟩ = some (.int .i64 x.signed.server) ∧ World.cell? v2 ⟨w.heap.size + 1, 7, none⟩ = some (.int .i64 x.signed.kind) ∧ World.cell? v2 ⟨w.heap.size + 1, 8, none⟩ = some (.int .i64 x.signed.view) ∧ World.cell? v2 ⟨w.heap.size + 1, 9, none⟩ = some (.int .i64 x.signed.slot) ∧ World.cell? v2 ⟨w.heap.size + 1, 10, none⟩ = some (.string ⟨x.signed.digest.toArray⟩) ∧ World.cell? v2 ⟨w.heap.size + 1, 11, none⟩ = some (.string ⟨x.signed.sig.toArray⟩) := ⟨HXx.out.cells 0 _ rfl, HXx.out.cells 1 _ rfl, HXx.out.cells 2 _ rfl, HXx.out.cells 3 _ rfl, HXx.out.cells 4 _ rfl, HXx.out.cells 5 _ rfl, HXx.out.cells 6 _ rfl, HXx.out.cells 7 _ rfl, HXx.out.cells 8 _ rfl, HXx.out.cells 9 _ rfl, HXx.out.cells 10 _ rfl, HXx.out.cells 11 _ rfl⟩
            refine hK.out _ _ hS2 (fun hHeld => ?_)
            clear hK K
            try simp only [Act.put,qk1,qk2,qk3,qk4,qk5,qk6]
            refine tkr 5 rfl (fun K hK => ?_)
            go_simp
            have hs := below_new v2 (.cells #[.int .i64 x.server, .int .i64 x.view, .int .i64 x.length, .int .i64 x.lockView, .string ⟨x.lock.toArray⟩, .slice x.cert.a x.cert.l.length x.cert.c, .int .i64 x.signed.server, .int .i64 x.signed.kind, .int .i64 x.signed.view, .int .i64 x.signed.slot, .string ⟨x.signed.digest.toArray⟩, .string ⟨x.signed.sig.toArray⟩] 62)
            have hsz : w.heap.size + 3 ≤ (World.heap v2).size := HRr.out.lt
            have HA : Hid (Vz (World.alloc v2 (.cells #[.int .i64 x.server, .int .i64 x.view, .int .i64 x.length, .int .i64 x.lockView, .string ⟨x.lock.toArray⟩, .slice x.cert.a x.cert.l.length x.cert.c, .int .i64 x.signed.server, .int .i64 x.signed.kind, .int .i64 x.signed.view, .int .i64 x.signed.slot, .string ⟨x.signed.digest.toArray⟩, .string ⟨x.signed.sig.toArray⟩] 62)) (World.heap v2).size [.int .i64 x.server, .int .i64 x.view, .int .i64 x.length, .int .i64 x.lockView, .string ⟨x.lock.toArray⟩, .slice x.cert.a x.cert.l.length x.cert.c, .int .i64 x.signed.server, .int .i64 x.signed.kind, .int .i64 x.signed.view, .int .i64 x.signed.slot, .string ⟨x.signed.digest.toArray⟩, .string ⟨x.signed.sig.toArray⟩]) := hD (Vz.new v2 [.int .i64 x.server, .int .i64 x.view, .int .i64 x.length, .int .i64 x.lockView, .string ⟨x.lock.toArray⟩, .slice x.cert.a x.cert.l.length x.cert.c, .int .i64 x.signed.server, .int .i64 x.signed.kind, .int .i64 x.signed.view, .int .i64 x.signed.slot, .string ⟨x.signed.digest.toArray⟩, .string ⟨x.signed.sig.toArray⟩] 62)
            have HL := hD (bon HL.out hs)
            have HZ := hD (HZ.out.below hs)
            have HXx := hD (HXx.out.below hs)
            have HRr := hD (HRr.out.below hs)
            have HO1 := hD (ownsRow_below HO1.out hs)
            clear hs hsz
            generalize World.alloc v2 (.cells #[.int .i64 x.server, .int .i64 x.view, .int .i64 x.length, .int .i64 x.lockView, .string ⟨x.lock.toArray⟩, .slice x.cert.a x.cert.l.length x.cert.c, .int .i64 x.signed.server, .int .i64 x.signed.kind, .int .i64 x.signed.view, .int .i64 x.signed.slot, .string ⟨x.signed.digest.toArray⟩, .string ⟨x.signed.sig.toArray⟩] 62) = v3 at HL HZ HXx HRr HO1 HA ⊢
            generalize (World.heap v2).size = gx at HA ⊢
            have hS3 : World.cell? v3 ⟨w.heap.size + 1, 0, none⟩ = some (.int .i64 x.server) ∧ World.cell? v3 ⟨w.heap.size + 1, 1, none⟩ = some (.int .i64 x.view) ∧ World.cell? v3 ⟨w.heap.size + 1, 2, none⟩ = some (.int .i64 x.length) ∧ World.cell? v3 ⟨w.heap.size + 1, 3, none⟩ = some (.int .i64 x.lockView) ∧ World.cell? v3 ⟨w.heap.size + 1, 4, none⟩ = some (.string ⟨x.lock.toArray⟩) ∧ World.cell? v3 ⟨w.heap.size + 1, 5, none⟩ = some (.slice x.cert.a x.cert.l.length x.cert.c) ∧ World.cell? v3 ⟨w.heap.size + 1, 6, none⟩ = some (.int .i64 x.signed.server) ∧ World.cell? v3 ⟨w.heap.size + 1, 7, none⟩ = some (.int .i64 x.signed.kind) ∧ World.cell? v3 ⟨w.heap.size + 1, 8, none⟩ = some (.int .i64 x.signed.view) ∧ World.cell? v3 ⟨w.heap.size + 1, 9, none⟩ = some (.int .i64 x.signed.slot) ∧ World.cell? v3 ⟨w.heap.size + 1, 10, none⟩ = some (.string ⟨x.signed.digest.toArray⟩) ∧ World.cell? v3 ⟨w.heap.size + 1, 11, none⟩ = some (.string ⟨x.signed.sig.toArray⟩) := ⟨HXx.out.cells 0 _ rfl, HXx.out.cells 1 _ rfl, HXx.out.cells 2 _ rfl, HXx.out.cells 3 _ rfl, HXx.out.cells 4 _ rfl, HXx.out.cells 5 _ rfl, HXx.out.cells 6 _ rfl, HXx.out.cells 7 _ rfl, HXx.out.cells 8 _ rfl, HXx.out.cells 9 _ rfl, HXx.out.cells 10 _ rfl, HXx.out.cells 11 _ rfl⟩
            refine hK.out _ _ hS3 (fun hHeld => ?_)
            clear hK K
            try simp only [Act.put,qk1,qk2,qk3,qk4,qk5,qk6]
            refine tkr 6 rfl (fun K hK => ?_)
            refine step_apg elemSt rfl _ _ (by rfl) (w.heap.size + 3) (by rfl) HO1.out (by rfl) (vz_rd HA.out 12 1 rfl) (by simp [Value.oneCell']) (by omega) (by omega) HRr.out.lt ?_
            intro A2 c2 v4 hown hgr
            have hl := fun g hg => (HO1.out.lt g hg).1
            have HO2 : Hid (World.ownsRow v4 (w.heap.size + 3) 62 12 (.slice A2 (ss.length + 1) c2) (ss.length + 1) ((ss ++ [x]).flatMap stC)) := hD (by rw [List.flatMap_append]; simpa [stC, Sl.v] using hown)
            have HL := hD (below_grown HL.out HL.out.size hgr (fun g hg => by have := hl g hg; omega))
            have HZ := hD (HZ.out.grown hgr (fun e => by have := hl _ e; omega))
            have HXx := hD (HXx.out.grown hgr (fun e => by have := hl _ e; omega))
            have HRr := hD (HRr.out.grown hgr (fun e => by have := hl _ e; omega))
            clear hown hgr hl
            have hS4 : World.cell? v4 ⟨w.heap.size + 1, 0, none⟩ = some (.int .i64 x.server) ∧ World.cell? v4 ⟨w.heap.size + 1, 1, none⟩ = some (.int .i64 x.view) ∧ World.cell? v4 ⟨w.heap.size + 1, 2, none⟩ = some (.int .i64 x.length) ∧ World.cell? v4 ⟨w.heap.size + 1, 3, none⟩ = some (.int .i64 x.lockView) ∧ World.cell? v4 ⟨w.heap.size + 1, 4, none⟩ = some (.string ⟨x.lock.toArray⟩) ∧ World.cell? v4 ⟨w.heap.size + 1, 5, none⟩ = some (.slice x.cert.a x.cert.l.length x.cert.c) ∧ World.cell? v4 ⟨w.heap.size + 1, 6, none⟩ = some (.int .i64 x.signed.server) ∧ World.cell? v4 ⟨w.heap.size + 1, 7, none⟩ = some (.int .i64 x.signed.kind) ∧ World.cell? v4 ⟨w.heap.size + 1, 8, none⟩ = some (.int .i64 x.signed.view) ∧ World.cell? v4 ⟨w.heap.size + 1, 9, none⟩ = some (.int .i64 x.signed.slot) ∧ World.cell? v4 ⟨w.heap.size + 1, 10, none⟩ = some (.string ⟨x.signed.digest.toArray⟩) ∧ World.cell? v4 ⟨w.heap.size + 1, 11, none⟩ = some (.string ⟨x.signed.sig.toArray⟩) := ⟨HXx.out.cells 0 _ rfl, HXx.out.cells 1 _ rfl, HXx.out.cells 2 _ rfl, HXx.out.cells 3 _ rfl, HXx.out.cells 4 _ rfl, HXx.out.cells 5 _ rfl, HXx.out.cells 6 _ rfl, HXx.out.cells 7 _ rfl, HXx.out.cells 8 _ rfl, HXx.out.cells 9 _ rfl, HXx.out.cells 10 _ rfl, HXx.out.cells 11 _ rfl⟩
            refine hK.out _ _ hS4 (fun hHeld => ?_)
            clear hK K
            try simp only [Act.put,qk1,qk2,qk3,qk4,qk5,qk6]
            refine takes [7] ?_
            refine tkr 8 rfl (fun K hK => ?_)
            have z0 := HZ.out.cells 0 _ rfl
            have f0 := HZ.out.free 0 (by simp)
            have lz := HZ.out.lt
            go_simp
            have hg := grown_set v4 ⟨w.heap.size, 0, none⟩ (.slice A2 (ss.length + 1) c2)
            have HL := hD (HL.out.setCell (p := ⟨w.heap.size, 0, none⟩) (Nat.le_refl _) (.slice A2 (ss.length + 1) c2))
            have HXx := hD (HXx.out.grown hg (by simp))
            have HRr := hD (HRr.out.grown hg (by simp))
            have HO2 := hD (own_far HO2.out ⟨w.heap.size, 0, none⟩ (.slice A2 (ss.length + 1) c2) (by show w.heap.size < _; omega))
            have HZ := hD ((HZ.out.set 0 (.slice A2 (ss.length + 1) c2)).eq (cs' := [.slice A2 (ss.length + 1) c2, .slice Bv nv dv]) rfl)
            clear z0 f0 lz hg
            generalize World.setCell v4 ⟨w.heap.size, 0, none⟩ (.slice A2 (ss.length + 1) c2) = v5 at HL HXx HRr HO2 HZ ⊢
            have hS5 : World.cell? v5 ⟨w.heap.size + 1, 0, none⟩ = some (.int .i64 x.server) ∧ World.cell? v5 ⟨w.heap.size + 1, 1, none⟩ = some (.int .i64 x.view) ∧ World.cell? v5 ⟨w.heap.size + 1, 2, none⟩ = some (.int .i64 x.length) ∧ World.cell? v5 ⟨w.heap.size + 1, 3, none⟩ = some (.int .i64 x.lockView) ∧ World.cell? v5 ⟨w.heap.size + 1, 4, none⟩ = some (.string ⟨x.lock.toArray⟩) ∧ World.cell? v5 ⟨w.heap.size + 1, 5, none⟩ = some (.slice x.cert.a x.cert.l.length x.cert.c) ∧ World.cell? v5 ⟨w.heap.size + 1, 6, none⟩ = some (.int .i64 x.signed.server) ∧ World.cell? v5 ⟨w.heap.size + 1, 7, none⟩ = some (.int .i64 x.signed.kind) ∧ World.cell? v5 ⟨w.heap.size + 1, 8, none⟩ = some (.int .i64 x.signed.view) ∧ World.cell? v5 ⟨w.heap.size + 1, 9, none⟩ = some (.int .i64 x.signed.slot) ∧ World.cell? v5 ⟨w.heap.size + 1, 10, none⟩ = some (.string ⟨x.signed.digest.toArray⟩) ∧ World.cell? v5 ⟨w.heap.size + 1, 11, none⟩ = some (.string ⟨x.signed.sig.toArray⟩) := ⟨HXx.out.cells 0 _ rfl, HXx.out.cells 1 _ rfl, HXx.out.cells 2 _ rfl, HXx.out.cells 3 _ rfl, HXx.out.cells 4 _ rfl, HXx.out.cells 5 _ rfl, HXx.out.cells 6 _ rfl, HXx.out.cells 7 _ rfl, HXx.out.cells 8 _ rfl, HXx.out.cells 9 _ rfl, HXx.out.cells 10 _ rfl, HXx.out.cells 11 _ rfl⟩
            refine hK.out _ _ hS5 (fun hHeld => ?_)
            clear hK K
            try simp only [Act.put,qk1,qk2,qk3,qk4,qk5,qk6]
            refine wpAnyH_done (by kernel_rfl) ?_ _
            refine NoPanic.normal ?_
            go_wp2_with fail
            go_meet
            case rel => exact ⟨A2, c2, HL.out, HZ.out, HRr.out, HO2.out⟩
          · go_simp
            have hs := below_new v1 (.cells #[.int .i64 x.server, .int .i64 x.view, .int .i64 x.length, .int .i64 x.lockView, .string ⟨x.lock.toArray⟩, .slice x.cert.a x.cert.l.length x.cert.c, .int .i64 x.signed.server, .int .i64 x.signed.kind, .int .i64 x.signed.view, .int .i64 x.signed.slot, .string ⟨x.signed.digest.toArray⟩, .string ⟨x.signed.sig.toArray⟩] 62)
            have hsz : w.heap.size + 3 ≤ (World.heap v1).size := HRr.out.lt
            have hne : g0 ≠ (World.heap v1).size := by have := (HO0.out.lt g0 rfl).2; omega
            have HA : Hid (Vz (World.alloc v1 (.cells #[.int .i64 x.server, .int .i64 x.view, .int .i64 x.length, .int .i64 x.lockView, .string ⟨x.lock.toArray⟩, .slice x.cert.a x.cert.l.length x.cert.c, .int .i64 x.signed.server, .int .i64 x.signed.kind, .int .i64 x.signed.view, .int .i64 x.signed.slot, .string ⟨x.signed.digest.toArray⟩, .string ⟨x.signed.sig.toArray⟩] 62)) (World.heap v1).size [.int .i64 x.server, .int .i64 x.view, .int .i64 x.length, .int .i64 x.lockView, .string ⟨x.lock.toArray⟩, .slice x.cert.a x.cert.l.length x.cert.c, .int .i64 x.signed.server, .int .i64 x.signed.kind, .int .i64 x.signed.view, .int .i64 x.signed.slot, .string ⟨x.signed.digest.toArray⟩, .string ⟨x.signed.sig.toArray⟩]) := hD (Vz.new v1 [.int .i64 x.server, .int .i64 x.view, .int .i64 x.length, .int .i64 x.lockView, .string ⟨x.lock.toArray⟩, .slice x.cert.a x.cert.l.length x.cert.c, .int .i64 x.signed.server, .int .i64 x.signed.kind, .int .i64 x.signed.view, .int .i64 x.signed.slot, .string ⟨x.signed.digest.toArray⟩, .string ⟨x.signed.sig.toArray⟩] 62)
            have HL := hD (bon HL.out hs)
            have HZ := hD (HZ.out.below hs)
            have HXx := hD (HXx.out.below hs)
            have HRr := hD (HRr.out.below hs)
            have HO0 := hD (ownsRow_below HO0.out hs)
            clear hs hsz
            generalize World.alloc v1 (.cells #[.int .i64 x.server, .int .i64 x.view, .int .i64 x.length, .int .i64 x.lockView, .string ⟨x.lock.toArray⟩, .slice x.cert.a x.cert.l.length x.cert.c, .int .i64 x.signed.server, .int .i64 x.signed.kind, .int .i64 x.signed.view, .int .i64 x.signed.slot, .string ⟨x.signed.digest.toArray⟩, .string ⟨x.signed.sig.toArray⟩] 62) = v2 at HL HZ HXx HRr HO0 HA ⊢
            generalize (World.heap v1).size = gx at HA hne ⊢
            have hS2 : World.cell? v2 ⟨w.heap.size + 1, 0, none⟩ = some (.int .i64 x.server) ∧ World.cell? v2 ⟨w.heap.size + 1, 1, none⟩ = some (.int .i64 x.view) ∧ World.cell? v2 ⟨w.heap.size + 1, 2, none⟩ = some (.int .i64 x.length) ∧ World.cell? v2 ⟨w.heap.size + 1, 3, none⟩ = some (.int .i64 x.lockView) ∧ World.cell? v2 ⟨w.heap.size + 1, 4, none⟩ = some (.string ⟨x.lock.toArray⟩) ∧ World.cell? v2 ⟨w.heap.size + 1, 5, none⟩ = some (.slice x.cert.a x.cert.l.length x.cert.c) ∧ World.cell? v2 ⟨w.heap.size + 1, 6, none⟩ = some (.int .i64 x.signed.server) ∧ World.cell? v2 ⟨w.heap.size + 1, 7, none⟩ = some (.int .i64 x.signed.kind) ∧ World.cell? v2 ⟨w.heap.size + 1, 8, none⟩ = some (.int .i64 x.signed.view) ∧ World.cell? v2 ⟨w.heap.size + 1, 9, none⟩ = some (.int .i64 x.signed.slot) ∧ World.cell? v2 ⟨w.heap.size + 1, 10, none⟩ = some (.string ⟨x.signed.digest.toArray⟩) ∧ World.cell? v2 ⟨w.heap.size + 1, 11, none⟩ = some (.string ⟨x.signed.sig.toArray⟩) := ⟨HXx.out.cells 0 _ rfl, HXx.out.cells 1 _ rfl, HXx.out.cells 2 _ rfl, HXx.out.cells 3 _ rfl, HXx.out.cells 4 _ rfl, HXx.out.cells 5 _ rfl, HXx.out.cells 6 _ rfl, HXx.out.cells 7 _ rfl, HXx.out.cells 8 _ rfl, HXx.out.cells 9 _ rfl, HXx.out.cells 10 _ rfl, HXx.out.cells 11 _ rfl⟩
            refine hK.out _ _ hS2 (fun hHeld => ?_)
            clear hK K
            try simp only [Act.put,qk1,qk2,qk3,qk4,qk5,qk6]
            refine tkr 3 rfl (fun K hK => ?_)
            refine step_apg elemSt rfl _ _ (by rfl) (w.heap.size + 3) (by rfl) HO0.out (by rfl) (HSs.out _ HL.out) (stC_one ss) (by omega) (by omega) HRr.out.lt ?_
            intro A1 c1 v3 hown hgr
            have hl := fun g hg => (HO0.out.lt g hg).1
            have HO1 : Hid (World.ownsRow v3 (w.heap.size + 3) 62 12 (.slice A1 ss.length c1) ss.length (ss.flatMap stC)) := hD (by simpa using hown)
            have HL := hD (below_grown HL.out HL.out.size hgr (fun g hg => by have := hl g hg; omega))
            have HZ := hD (HZ.out.grown hgr (fun e => by have := hl _ e; omega))
            have HXx := hD (HXx.out.grown hgr (fun e => by have := hl _ e; omega))
            have HRr := hD (HRr.out.grown hgr (fun e => by have := hl _ e; omega))
            have HA := hD (HA.out.grown hgr (fun e => hne (by simpa [Value.ownBlock] using e)))
            clear hown hgr hl
            try simp only [Nat.zero_add]
            have hS3 : World.cell? v3 ⟨w.heap.size + 1, 0, none⟩ = some (.int .i64 x.server) ∧ World.cell? v3 ⟨w.heap.size + 1, 1, none⟩ = some (.int .i64 x.view) ∧ World.cell? v3 ⟨w.heap.size + 1, 2, none⟩ = some (.int .i64 x.length) ∧ World.cell? v3 ⟨w.heap.size + 1, 3, none⟩ = some (.int .i64 x.lockView) ∧ World.cell? v3 ⟨w.heap.size + 1, 4, none⟩ = some (.string ⟨x.lock.toArray⟩) ∧ World.cell? v3 ⟨w.heap.size + 1, 5, none⟩ = some (.slice x.cert.a x.cert.l.length x.cert.c) ∧ World.cell? v3 ⟨w.heap.size + 1, 6, none⟩ = some (.int .i64 x.signed.server) ∧ World.cell? v3 ⟨w.heap.size + 1, 7, none⟩ = some (.int .i64 x.signed.kind) ∧ World.cell? v3 ⟨w.heap.size + 1, 8, none⟩ = some (.int .i64 x.signed.view) ∧ World.cell? v3 ⟨w.heap.size + 1, 9, none⟩ = some (.int .i64 x.signed.slot) ∧ World.cell? v3 ⟨w.heap.size + 1, 10, none⟩ = some (.string ⟨x.signed.digest.toArray⟩) ∧ World.cell? v3 ⟨w.heap.size + 1, 11, none⟩ = some (.string ⟨x.signed.sig.toArray⟩) := ⟨HXx.out.cells 0 _ rfl, HXx.out.cells 1 _ rfl, HXx.out.cells 2 _ rfl, HXx.out.cells 3 _ rfl, HXx.out.cells 4 _ rfl, HXx.out.cells 5 _ rfl, HXx.out.cells 6 _ rfl, HXx.out.cells 7 _ rfl, HXx.out.cells 8 _ rfl, HXx.out.cells 9 _ rfl, HXx.out.cells 10 _ rfl, HXx.out.cells 11 _ rfl⟩
            refine hK.out _ _ hS3 (fun hHeld => ?_)
            clear hK K
            try simp only [Act.put,qk1,qk2,qk3,qk4,qk5,qk6]
            refine tkr 6 rfl (fun K hK => ?_)
            refine step_apg elemSt rfl _ _ (by rfl) (w.heap.size + 3) (by rfl) HO1.out (by rfl) (vz_rd HA.out 12 1 rfl) (by simp [Value.oneCell']) (by omega) (by omega) HRr.out.lt ?_
            intro A2 c2 v4 hown hgr
            have hl := fun g hg => (HO1.out.lt g hg).1
            have HO2 : Hid (World.ownsRow v4 (w.heap.size + 3) 62 12 (.slice A2 (ss.length + 1) c2) (ss.length + 1) ((ss ++ [x]).flatMap stC)) := hD (by rw [List.flatMap_append]; simpa [stC, Sl.v] using hown)
            have HL := hD (below_grown HL.out HL.out.size hgr (fun g hg => by have := hl g hg; omega))
            have HZ := hD (HZ.out.grown hgr (fun e => by have := hl _ e; omega))
            have HXx := hD (HXx.out.grown hgr (fun e => by have := hl _ e; omega))
            have HRr := hD (HRr.out.grown hgr (fun e => by have := hl _ e; omega))
            clear hown hgr hl
            have hS4 : World.cell? v4 ⟨w.heap.size + 1, 0, none⟩ = some (.int .i64 x.server) ∧ World.cell? v4 ⟨w.heap.size + 1, 1, none⟩ = some (.int .i64 x.view) ∧ World.cell? v4 ⟨w.heap.size + 1, 2, none⟩ = some (.int .i64 x.length) ∧ World.cell? v4 ⟨w.heap.size + 1, 3, none⟩ = some (.int .i64 x.lockView) ∧ World.cell? v4 ⟨w.heap.size + 1, 4, none⟩ = some (.string ⟨x.lock.toArray⟩) ∧ World.cell? v4 ⟨w.heap.size + 1, 5, none⟩ = some (.slice x.cert.a x.cert.l.length x.cert.c) ∧ World.cell? v4 ⟨w.heap.size + 1, 6, none⟩ = some (.int .i64 x.signed.server) ∧ World.cell? v4 ⟨w.heap.size + 1, 7, none⟩ = some (.int .i64 x.signed.kind) ∧ World.cell? v4 ⟨w.heap.size + 1, 8, none⟩ = some (.int .i64 x.signed.view) ∧ World.cell? v4 ⟨w.heap.size + 1, 9, none⟩ = some (.int .i64 x.signed.slot) ∧ World.cell? v4 ⟨w.heap.size + 1, 10, none⟩ = some (.string ⟨x.signed.digest.toArray⟩) ∧ World.cell? v4 ⟨w.heap.size + 1, 11, none⟩ = some (.string ⟨x.signed.sig.toArray⟩) := ⟨HXx.out.cells 0 _ rfl, HXx.out.cells 1 _ rfl, HXx.out.cells 2 _ rfl, HXx.out.cells 3 _ rfl, HXx.out.cells 4 _ rfl, HXx.out.cells 5 _ rfl, HXx.out.cells 6 _ rfl, HXx.out.cells 7 _ rfl, HXx.out.cells 8 _ rfl, HXx.out.cells 9 _ rfl, HXx.out.cells 10 _ rfl, HXx.out.cells 11 _ rfl⟩
            refine hK.out _ _ hS4 (fun hHeld => ?_)
            clear hK K
            try simp only [Act.put,qk1,qk2,qk3,qk4,qk5,qk6]
            refine takes [7] ?_
            refine tkr 8 rfl (fun K hK => ?_)
            have z0 := HZ.out.cells 0 _ rfl
            have f0 := HZ.out.free 0 (by simp)
            have lz := HZ.out.lt
            go_simp
            have hg := grown_set v4 ⟨w.heap.size, 0, none⟩ (.slice A2 (ss.length + 1) c2)
            have HL := hD (HL.out.setCell (p := ⟨w.heap.size, 0, none⟩) (Nat.le_refl _) (.slice A2 (ss.length + 1) c2))
            have HXx := hD (HXx.out.grown hg (by simp))
            have HRr := hD (HRr.out.grown hg (by simp))
            have HO2 := hD (own_far HO2.out ⟨w.heap.size, 0, none⟩ (.slice A2 (ss.length + 1) c2) (by show w.heap.size < _; omega))
            have HZ := hD ((HZ.out.set 0 (.slice A2 (ss.length + 1) c2)).eq (cs' := [.slice A2 (ss.length + 1) c2, .slice Bv nv dv]) rfl)
            clear z0 f0 lz hg
            generalize World.setCell v4 ⟨w.heap.size, 0, none⟩ (.slice A2 (ss.length + 1) c2) = v5 at HL HXx HRr HO2 HZ ⊢
            have hS5 : World.cell? v5 ⟨w.heap.size + 1, 0, none⟩ = some (.int .i64 x.server) ∧ World.cell? v5 ⟨w.heap.size + 1, 1, none⟩ = some (.int .i64 x.view) ∧ World.cell? v5 ⟨w.heap.size + 1, 2, none⟩ = some (.int .i64 x.length) ∧ World.cell? v5 ⟨w.heap.size + 1, 3, none⟩ = some (.int .i64 x.lockView) ∧ World.cell? v5 ⟨w.heap.size + 1, 4, none⟩ = some (.string ⟨x.lock.toArray⟩) ∧ World.cell? v5 ⟨w.heap.size + 1, 5, none⟩ = some (.slice x.cert.a x.cert.l.length x.cert.c) ∧ World.cell? v5 ⟨w.heap.size + 1, 6, none⟩ = some (.int .i64 x.signed.server) ∧ World.cell? v5 ⟨w.heap.size + 1, 7, none⟩ = some (.int .i64 x.signed.kind) ∧ World.cell? v5 ⟨w.heap.size + 1, 8, none⟩ = some (.int .i64 x.signed.view) ∧ World.cell? v5 ⟨w.heap.size + 1, 9, none⟩ = some (.int .i64 x.signed.slot) ∧ World.cell? v5 ⟨w.heap.size + 1, 10, none⟩ = some (.string ⟨x.signed.digest.toArray⟩) ∧ World.cell? v5 ⟨w.heap.size + 1, 11, none⟩ = some (.string ⟨x.signed.sig.toArray⟩) := ⟨HXx.out.cells 0 _ rfl, HXx.out.cells 1 _ rfl, HXx.out.cells 2 _ rfl, HXx.out.cells 3 _ rfl, HXx.out.cells 4 _ rfl, HXx.out.cells 5 _ rfl, HXx.out.cells 6 _ rfl, HXx.out.cells 7 _ rfl, HXx.out.cells 8 _ rfl, HXx.out.cells 9 _ rfl, HXx.out.cells 10 _ rfl, HXx.out.cells 11 _ rfl⟩
            refine hK.out _ _ hS5 (fun hHeld => ?_)
            clear hK K
            try simp only [Act.put,qk1,qk2,qk3,qk4,qk5,qk6]
            refine wpAnyH_done (by kernel_rfl) ?_ _
            refine NoPanic.normal ?_
            go_wp2_with fail
            go_meet
            case rel => exact ⟨A2, c2, HL.out, HZ.out, HRr.out, HO2.out⟩
        · go_simp
          have hs := below_new v1 (.cells #[.int .i64 x.server, .int .i64 x.view, .int .i64 x.length, .int .i64 x.lockView, .string ⟨x.lock.toArray⟩, .slice x.cert.a x.cert.l.length x.cert.c, .int .i64 x.signed.server, .int .i64 x.signed.kind, .int .i64 x.signed.view, .int .i64 x.signed.slot, .string ⟨x.signed.digest.toArray⟩, .string ⟨x.signed.sig.toArray⟩] 62)
          have hsz : w.heap.size + 3 ≤ (World.heap v1).size := HRr.out.lt
          have hne : g0 ≠ (World.heap v1).size := by have := (HO0.out.lt g0 rfl).2; omega
          have HA : Hid (Vz (World.alloc v1 (.cells #[.int .i64 x.server, .int .i64 x.view, .int .i64 x.length, .int .i64 x.lockView, .string ⟨x.lock.toArray⟩, .slice x.cert.a x.cert.l.length x.cert.c, .int .i64 x.signed.server, .int .i64 x.signed.kind, .int .i64 x.signed.view, .int .i64 x.signed.slot, .string ⟨x.signed.digest.toArray⟩, .string ⟨x.signed.sig.toArray⟩] 62)) (World.heap v1).size [.int .i64 x.server, .int .i64 x.view, .int .i64 x.length, .int .i64 x.lockView, .string ⟨x.lock.toArray⟩, .slice x.cert.a x.cert.l.length x.cert.c, .int .i64 x.signed.server, .int .i64 x.signed.kind, .int .i64 x.signed.view, .int .i64 x.signed.slot, .string ⟨x.signed.digest.toArray⟩, .string ⟨x.signed.sig.toArray⟩]) := hD (Vz.new v1 [.int .i64 x.server, .int .i64 x.view, .int .i64 x.length, .int .i64 x.lockView, .string ⟨x.lock.toArray⟩, .slice x.cert.a x.cert.l.length x.cert.c, .int .i64 x.signed.server, .int .i64 x.signed.kind, .int .i64 x.signed.view, .int .i64 x.signed.slot, .string ⟨x.signed.digest.toArray⟩, .string ⟨x.signed.sig.toArray⟩] 62)
          have HL := hD (bon HL.out hs)
          have HZ := hD (HZ.out.below hs)
          have HXx := hD (HXx.out.below hs)
          have HRr := hD (HRr.out.below hs)
          have HO0 := hD (ownsRow_below HO0.out hs)
          clear hs hsz
          generalize World.alloc v1 (.cells #[.int .i64 x.server, .int .i64 x.view, .int .i64 x.length, .int .i64 x.lockView, .string ⟨x.lock.toArray⟩, .slice x.cert.a x.cert.l.length x.cert.c, .int .i64 x.signed.server, .int .i64 x.signed.kind, .int .i64 x.signed.view, .int .i64 x.signed.slot, .string ⟨x.signed.digest.toArray⟩, .string ⟨x.signed.sig.toArray⟩] 62) = v2 at HL HZ HXx HRr HO0 HA ⊢
          generalize (World.heap v1).size = gx at HA hne ⊢
          have hS2 : World.cell? v2 ⟨w.heap.size + 1, 0, none⟩ = some (.int .i64 x.server) ∧ World.cell? v2 ⟨w.heap.size + 1, 1, none⟩ = some (.int .i64 x.view) ∧ World.cell? v2 ⟨w.heap.size + 1, 2, none⟩ = some (.int .i64 x.length) ∧ World.cell? v2 ⟨w.heap.size + 1, 3, none⟩ = some (.int .i64 x.lockView) ∧ World.cell? v2 ⟨w.heap.size + 1, 4, none⟩ = some (.string ⟨x.lock.toArray⟩) ∧ World.cell? v2 ⟨w.heap.size + 1, 5, none⟩ = some (.slice x.cert.a x.cert.l.length x.cert.c) ∧ World.cell? v2 ⟨w.heap.size + 1, 6, none⟩ = some (.int .i64 x.signed.server) ∧ World.cell? v2 ⟨w.heap.size + 1, 7, none⟩ = some (.int .i64 x.signed.kind) ∧ World.cell? v2 ⟨w.heap.size + 1, 8, none⟩ = some (.int .i64 x.signed.view) ∧ World.cell? v2 ⟨w.heap.size + 1, 9, none⟩ = some (.int .i64 x.signed.slot) ∧ World.cell? v2 ⟨w.heap.size + 1, 10, none⟩ = some (.string ⟨x.signed.digest.toArray⟩) ∧ World.cell? v2 ⟨w.heap.size + 1, 11, none⟩ = some (.string ⟨x.signed.sig.toArray⟩) := ⟨HXx.out.cells 0 _ rfl, HXx.out.cells 1 _ rfl, HXx.out.cells 2 _ rfl, HXx.out.cells 3 _ rfl, HXx.out.cells 4 _ rfl, HXx.out.cells 5 _ rfl, HXx.out.cells 6 _ rfl, HXx.out.cells 7 _ rfl, HXx.out.cells 8 _ rfl, HXx.out.cells 9 _ rfl, HXx.out.cells 10 _ rfl, HXx.out.cells 11 _ rfl⟩
          refine hK.out _ _ hS2 (fun hHeld => ?_)
          clear hK K
          try simp only [Act.put,qk1,qk2,qk3,qk4,qk5,qk6]
          refine tkr 2 rfl (fun K hK => ?_)
          have z0 := HZ.out.cells 0 _ rfl
          have lz := HZ.out.lt
          go_simp
          clear z0 lz
          have hq2 : World.cell? v2 ⟨w.heap.size + 1, 0, none⟩ = some (.int .i64 x.server) ∧ World.cell? v2 ⟨w.heap.size + 1, 1, none⟩ = some (.int .i64 x.view) ∧ World.cell? v2 ⟨w.heap.size + 1, 2, none⟩ = some (.int .i64 x.length) ∧ World.cell? v2 ⟨w.heap.size + 1, 3, none⟩ = some (.int .i64 x.lockView) ∧ World.cell? v2 ⟨w.heap.size + 1, 4, none⟩ = some (.string ⟨x.lock.toArray⟩) ∧ World.cell? v2 ⟨w.heap.size + 1, 5, none⟩ = some (.slice x.cert.a x.cert.l.length x.cert.c) ∧ World.cell? v2 ⟨w.heap.size + 1, 6, none⟩ = some (.int .i64 x.signed.server) ∧ World.cell? v2 ⟨w.heap.size + 1, 7, none⟩ = some (.int .i64 x.signed.kind) ∧ World.cell? v2 ⟨w.heap.size + 1, 8, none⟩ = some (.int .i64 x.signed.view) ∧ World.cell? v2 ⟨w.heap.size + 1, 9, none⟩ = some (.int .i64 x.signed.slot) ∧ World.cell? v2 ⟨w.heap.size + 1, 10, none⟩ = some (.string ⟨x.signed.digest.toArray⟩) ∧ World.cell? v2 ⟨w.heap.size + 1, 11, none⟩ = some (.string ⟨x.signed.sig.toArray⟩) := ⟨HXx.out.cells 0 _ rfl, HXx.out.cells 1 _ rfl, HXx.out.cells 2 _ rfl, HXx.out.cells 3 _ rfl, HXx.out.cells 4 _ rfl, HXx.out.cells 5 _ rfl, HXx.out.cells 6 _ rfl, HXx.out.cells 7 _ rfl, HXx.out.cells 8 _ rfl, HXx.out.cells 9 _ rfl, HXx.out.cells 10 _ rfl, HXx.out.cells 11 _ rfl⟩
          refine hK.out _ _ hq2 (fun hHeld => ?_)
          clear hK K hq2
          try simp only [Act.put,qk1,qk2,qk3,qk4,qk5,qk6]
          refine tkr 3 rfl (fun K hK => ?_)
          refine step_apg elemSt rfl _ _ (by rfl) (w.heap.size + 3) (by rfl) HO0.out (by rfl) (HSs.out _ HL.out) (stC_one ss) (by omega) (by omega) HRr.out.lt ?_
          intro A1 c1 v3 hown hgr
          have hl := fun g hg => (HO0.out.lt g hg).1
          have HO1 : Hid (World.ownsRow v3 (w.heap.size + 3) 62 12 (.slice A1 ss.length c1) ss.length (ss.flatMap stC)) := hD (by simpa using hown)
          have HL := hD (below_grown HL.out HL.out.size hgr (fun g hg => by have := hl g hg; omega))
          have HZ := hD (HZ.out.grown hgr (fun e => by have := hl _ e; omega))
          have HXx := hD (HXx.out.grown hgr (fun e => by have := hl _ e; omega))
          have HRr := hD (HRr.out.grown hgr (fun e => by have := hl _ e; omega))
          have HA := hD (HA.out.grown hgr (fun e => hne (by simpa [Value.ownBlock] using e)))
          clear hown hgr hl
          try simp only [Nat.zero_add]
          have hS3 : World.cell? v3 ⟨w.heap.size + 1, 0, none⟩ = some (.int .i64 x.server) ∧ World.cell? v3 ⟨w.heap.size + 1, 1, none⟩ = some (.int .i64 x.view) ∧ World.cell? v3 ⟨w.heap.size + 1, 2, none⟩ = some (.int .i64 x.length) ∧ World.cell? v3 ⟨w.heap.size + 1, 3, none⟩ = some (.int .i64 x.lockView) ∧ World.cell? v3 ⟨w.heap.size + 1, 4, none⟩ = some (.string ⟨x.lock.toArray⟩) ∧ World.cell? v3 ⟨w.heap.size + 1, 5, none⟩ = some (.slice x.cert.a x.cert.l.length x.cert.c) ∧ World.cell? v3 ⟨w.heap.size + 1, 6, none⟩ = some (.int .i64 x.signed.server) ∧ World.cell? v3 ⟨w.heap.size + 1, 7, none⟩ = some (.int .i64 x.signed.kind) ∧ World.cell? v3 ⟨w.heap.size + 1, 8, none⟩ = some (.int .i64 x.signed.view) ∧ World.cell? v3 ⟨w.heap.size + 1, 9, none⟩ = some (.int .i64 x.signed.slot) ∧ World.cell? v3 ⟨w.heap.size + 1, 10, none⟩ = some (.string ⟨x.signed.digest.toArray⟩) ∧ World.cell? v3 ⟨w.heap.size + 1, 11, none⟩ = some (.string ⟨x.signed.sig.toArray⟩) := ⟨HXx.out.cells 0 _ rfl, HXx.out.cells 1 _ rfl, HXx.out.cells 2 _ rfl, HXx.out.cells 3 _ rfl, HXx.out.cells 4 _ rfl, HXx.out.cells 5 _ rfl, HXx.out.cells 6 _ rfl, HXx.out.cells 7 _ rfl, HXx.out.cells 8 _ rfl, HXx.out.cells 9 _ rfl, HXx.out.cells 10 _ rfl, HXx.out.cells 11 _ rfl⟩
          refine hK.out _ _ hS3 (fun hHeld => ?_)
          clear hK K
          try simp only [Act.put,qk1,qk2,qk3,qk4,qk5,qk6]
          refine tkr 6 rfl (fun K hK => ?_)
          refine step_apg elemSt rfl _ _ (by rfl) (w.heap.size + 3) (by rfl) HO1.out (by rfl) (vz_rd HA.out 12 1 rfl) (by simp [Value.oneCell']) (by omega) (by omega) HRr.out.lt ?_
          intro A2 c2 v4 hown hgr
          have hl := fun g hg => (HO1.out.lt g hg).1
          have HO2 : Hid (World.ownsRow v4 (w.heap.size + 3) 62 12 (.slice A2 (ss.length + 1) c2) (ss.length + 1) ((ss ++ [x]).flatMap stC)) := hD (by rw [List.flatMap_append]; simpa [stC, Sl.v] using hown)
          have HL := hD (below_grown HL.out HL.out.size hgr (fun g hg => by have := hl g hg; omega))
          have HZ := hD (HZ.out.grown hgr (fun e => by have := hl _ e; omega))
          have HXx := hD (HXx.out.grown hgr (fun e => by have := hl _ e; omega))
          have HRr := hD (HRr.out.grown hgr (fun e => by have := hl _ e; omega))
          clear hown hgr hl
          have hS4 : World.cell? v4 ⟨w.heap.size + 1, 0, none⟩ = some (.int .i64 x.server) ∧ World.cell? v4 ⟨w.heap.size + 1, 1, none⟩ = some (.int .i64 x.view) ∧ World.cell? v4 ⟨w.heap.size + 1, 2, none⟩ = some (.int .i64 x.length) ∧ World.cell? v4 ⟨w.heap.size + 1, 3, none⟩ = some (.int .i64 x.lockView) ∧ World.cell? v4 ⟨w.heap.size + 1, 4, none⟩ = some (.string ⟨x.lock.toArray⟩) ∧ World.cell? v4 ⟨w.heap.size + 1, 5, none⟩ = some (.slice x.cert.a x.cert.l.length x.cert.c) ∧ World.cell? v4 ⟨w.heap.size + 1, 6, none⟩ = some (.int .i64 x.signed.server) ∧ World.cell? v4 ⟨w.heap.size + 1, 7, none⟩ = some (.int .i64 x.signed.kind) ∧ World.cell? v4 ⟨w.heap.size + 1, 8, none⟩ = some (.int .i64 x.signed.view) ∧ World.cell? v4 ⟨w.heap.size + 1, 9, none⟩ = some (.int .i64 x.signed.slot) ∧ World.cell? v4 ⟨w.heap.size + 1, 10, none⟩ = some (.string ⟨x.signed.digest.toArray⟩) ∧ World.cell? v4 ⟨w.heap.size + 1, 11, none⟩ = some (.string ⟨x.signed.sig.toArray⟩) := ⟨HXx.out.cells 0 _ rfl, HXx.out.cells 1 _ rfl, HXx.out.cells 2 _ rfl, HXx.out.cells 3 _ rfl, HXx.out.cells 4 _ rfl, HXx.out.cells 5 _ rfl, HXx.out.cells 6 _ rfl, HXx.out.cells 7 _ rfl, HXx.out.cells 8 _ rfl, HXx.out.cells 9 _ rfl, HXx.out.cells 10 _ rfl, HXx.out.cells 11 _ rfl⟩
          refine hK.out _ _ hS4 (fun hHeld => ?_)
          clear hK K
          try simp only [Act.put,qk1,qk2,qk3,qk4,qk5,qk6]
          refine takes [7] ?_
          refine tkr 8 rfl (fun K hK => ?_)
          have z0 := HZ.out.cells 0 _ rfl
          have f0 := HZ.out.free 0 (by simp)
          have lz := HZ.out.lt
          go_simp
          have hg := grown_set v4 ⟨w.heap.size, 0, none⟩ (.slice A2 (ss.length + 1) c2)
          have HL := hD (HL.out.setCell (p := ⟨w.heap.size, 0, none⟩) (Nat.le_refl _) (.slice A2 (ss.length + 1) c2))
          have HXx := hD (HXx.out.grown hg (by simp))
          have HRr := hD (HRr.out.grown hg (by simp))
          have HO2 := hD (own_far HO2.out ⟨w.heap.size, 0, none⟩ (.slice A2 (ss.length + 1) c2) (by show w.heap.size < _; omega))
          have HZ := hD ((HZ.out.set 0 (.slice A2 (ss.length + 1) c2)).eq (cs' := [.slice A2 (ss.length + 1) c2, .slice Bv nv dv]) rfl)
          clear z0 f0 lz hg
          generalize World.setCell v4 ⟨w.heap.size, 0, none⟩ (.slice A2 (ss.length + 1) c2) = v5 at HL HXx HRr HO2 HZ ⊢
          have hS5 : World.cell? v5 ⟨w.heap.size + 1, 0, none⟩ = some (.int .i64 x.server) ∧ World.cell? v5 ⟨w.heap.size + 1, 1, none⟩ = some (.int .i64 x.view) ∧ World.cell? v5 ⟨w.heap.size + 1, 2, none⟩ = some (.int .i64 x.length) ∧ World.cell? v5 ⟨w.heap.size + 1, 3, none⟩ = some (.int .i64 x.lockView) ∧ World.cell? v5 ⟨w.heap.size + 1, 4, none⟩ = some (.string ⟨x.lock.toArray⟩) ∧ World.cell? v5 ⟨w.heap.size + 1, 5, none⟩ = some (.slice x.cert.a x.cert.l.length x.cert.c) ∧ World.cell? v5 ⟨w.heap.size + 1, 6, none⟩ = some (.int .i64 x.signed.server) ∧ World.cell? v5 ⟨w.heap.size + 1, 7, none⟩ = some (.int .i64 x.signed.kind) ∧ World.cell? v5 ⟨w.heap.size + 1, 8, none⟩ = some (.int .i64 x.signed.view) ∧ World.cell? v5 ⟨w.heap.size + 1, 9, none⟩ = some (.int .i64 x.signed.slot) ∧ World.cell? v5 ⟨w.heap.size + 1, 10, none⟩ = some (.string ⟨x.signed.digest.toArray⟩) ∧ World.cell? v5 ⟨w.heap.size + 1, 11, none⟩ = some (.string ⟨x.signed.sig.toArray⟩) := ⟨HXx.out.cells 0 _ rfl, HXx.out.cells 1 _ rfl, HXx.out.cells 2 _ rfl, HXx.out.cells 3 _ rfl, HXx.out.cells 4 _ rfl, HXx.out.cells 5 _ rfl, HXx.out.cells 6 _ rfl, HXx.out.cells 7 _ rfl, HXx.out.cells 8 _ rfl, HXx.out.cells 9 _ rfl, HXx.out.cells 10 _ rfl, HXx.out.cells 11 _ rfl⟩
          refine hK.out _ _ hS5 (fun hHeld => ?_)
          clear hK K
          try simp only [Act.put,qk1,qk2,qk3,qk4,qk5,qk6]
          refine wpAnyH_done (by kernel_rfl) ?_ _
          refine NoPanic.normal ?_
          go_wp2_with fail
          go_meet
          case rel => exact ⟨A2, c2, HL.out, HZ.out, HRr.out, HO2.out⟩
      · have z0 := HZ.out.cells 0 _ rfl
        have lz := HZ.out.lt
        go_simp
        clear z0 lz
        have hq0 : World.cell? v0 ⟨w.heap.size + 1, 0, none⟩ = some (.int .i64 x.server) ∧ World.cell? v0 ⟨w.heap.size + 1, 1, none⟩ = some (.int .i64 x.view) ∧ World.cell? v0 ⟨w.heap.size + 1, 2, none⟩ = some (.int .i64 x.length) ∧ World.cell? v0 ⟨w.heap.size + 1, 3, none⟩ = some (.int .i64 x.lockView) ∧ World.cell? v0 ⟨w.heap.size + 1, 4, none⟩ = some (.string ⟨x.lock.toArray⟩) ∧ World.cell? v0 ⟨w.heap.size + 1, 5, none⟩ = some (.slice x.cert.a x.cert.l.length x.cert.c) ∧ World.cell? v0 ⟨w.heap.size + 1, 6, none⟩ = some (.int .i64 x.signed.server) ∧ World.cell? v0 ⟨w.heap.size + 1, 7, none⟩ = some (.int .i64 x.signed.kind) ∧ World.cell? v0 ⟨w.heap.size + 1, 8, none⟩ = some (.int .i64 x.signed.view) ∧ World.cell? v0 ⟨w.heap.size + 1, 9, none⟩ = some (.int .i64 x.signed.slot) ∧ World.cell? v0 ⟨w.heap.size + 1, 10, none⟩ = some (.string ⟨x.signed.digest.toArray⟩) ∧ World.cell? v0 ⟨w.heap.size + 1, 11, none⟩ = some (.string ⟨x.signed.sig.toArray⟩) := ⟨HXx.out.cells 0 _ rfl, HXx.out.cells 1 _ rfl, HXx.out.cells 2 _ rfl, HXx.out.cells 3 _ rfl, HXx.out.cells 4 _ rfl, HXx.out.cells 5 _ rfl, HXx.out.cells 6 _ rfl, HXx.out.cells 7 _ rfl, HXx.out.cells 8 _ rfl, HXx.out.cells 9 _ rfl, HXx.out.cells 10 _ rfl, HXx.out.cells 11 _ rfl⟩
        refine hK.out _ _ hq0 (fun hHeld => ?_)
        clear hK K hq0
        try simp only [Act.put,qk1,qk2,qk3,qk4,qk5,qk6]
        refine wpAnyH_ready (rs := [0, 5]) (by kernel_rfl) (by simp) ?_
        refine AllReadyH.cons (o := _) rfl (fun K hK => ?_) (AllReadyH.cons (o := _) rfl (fun K hK => ?_) AllReadyH.nil)
        · go_simp
          have hs := below_new v0 (.cells #[] 62)
          have hsz : w.heap.size + 3 ≤ (World.heap v0).size := HRr.out.lt
          have HO0 : Hid (World.ownsRow (World.alloc v0 (.cells #[] 62)) (w.heap.size + 3) 62 12 (.slice (some ⟨(World.heap v0).size, 0, none⟩) 0 0) 0 []) := hD (World.ownsRow_lit (base := w.heap.size + 3) (e := 62) (size := 12) v0 #[] 0 hsz (by simp) rfl)
          have HL := hD (bon HL.out hs)
          have HZ := hD (HZ.out.below hs)
          have HXx := hD (HXx.out.below hs)
          have HRr := hD (HRr.out.below hs)
          clear hs hsz
          generalize World.alloc v0 (.cells #[] 62) = v1 at HL HZ HXx HRr HO0 ⊢
          generalize (World.heap v0).size = g0 at HO0 ⊢
          have hS1 : World.cell? v1 ⟨w.heap.size + 1, 0, none⟩ = some (.int .i64 x.server) ∧ World.cell? v1 ⟨w.heap.size + 1, 1, none⟩ = some (.int .i64 x.view) ∧ World.cell? v1 ⟨w.heap.size + 1, 2, none⟩ = some (.int .i64 x.length) ∧ World.cell? v1 ⟨w.heap.size + 1, 3, none⟩ = some (.int .i64 x.lockView) ∧ World.cell? v1 ⟨w.heap.size + 1, 4, none⟩ = some (.string ⟨x.lock.toArray⟩) ∧ World.cell? v1 ⟨w.heap.size + 1, 5, none⟩ = some (.slice x.cert.a x.cert.l.length x.cert.c) ∧ World.cell? v1 ⟨w.heap.size + 1, 6, none⟩ = some (.int .i64 x.signed.server) ∧ World.cell? v1 ⟨w.heap.size + 1, 7, none⟩ = some (.int .i64 x.signed.kind) ∧ World.cell? v1 ⟨w.heap.size + 1, 8, none⟩ = some (.int .i64 x.signed.view) ∧ World.cell? v1 ⟨w.heap.size + 1, 9, none⟩ = some (.int .i64 x.signed.slot) ∧ World.cell? v1 ⟨w.heap.size + 1, 10, none⟩ = some (.string ⟨x.signed.digest.toArray⟩) ∧ World.cell? v1 ⟨w.heap.size + 1, 11, none⟩ = some (.string ⟨x.signed.sig.toArray⟩) := ⟨HXx.out.cells 0 _ rfl, HXx.out.cells 1 _ rfl, HXx.out.cells 2 _ rfl, HXx.out.cells 3 _ rfl, HXx.out.cells 4 _ rfl, HXx.out.cells 5 _ rfl, HXx.out.cells 6 _ rfl, HXx.out.cells 7 _ rfl, HXx.out.cells 8 _ rfl, HXx.out.cells 9 _ rfl, HXx.out.cells 10 _ rfl, HXx.out.cells 11 _ rfl⟩
          refine hK.out _ _ hS1 (fun hHeld => ?_)
          clear hK K
          try simp only [Act.put,qk1,qk2,qk3,qk4,qk5,qk6]
          refine wpAnyH_ready (rs := [3, 5]) (by kernel_rfl) (by simp) ?_
          refine AllReadyH.cons (o := _) rfl (fun K hK => ?_) (AllReadyH.cons (o := _) rfl (fun K hK => ?_) AllReadyH.nil)
          · refine step_apg elemSt rfl _ _ (by rfl) (w.heap.size + 3) (by rfl) HO0.out (by rfl) (HSs.out _ HL.out) (stC_one ss) (by omega) (by omega) HRr.out.lt ?_
            intro A1 c1 v2 hown hgr
            have hl := fun g hg => (HO0.out.lt g hg).1
            have HO1 : Hid (World.ownsRow v2 (w.heap.size + 3) 62 12 (.slice A1 ss.length c1) ss.length (ss.flatMap stC)) := hD (by simpa using hown)
            have HL := hD (below_grown HL.out HL.out.size hgr (fun g hg => by have := hl g hg; omega))
            have HZ := hD (HZ.out.grown hgr (fun e => by have := hl _ e; omega))
            have HXx := hD (HXx.out.grown hgr (fun e => by have := hl _ e; omega))
            have HRr := hD (HRr.out.grown hgr (fun e => by have := hl _ e; omega))
            clear hown hgr hl
            try simp only [Nat.zero_add]
            have hS2 : World.cell? v2 ⟨w.heap.size + 1, 0, none⟩ = some (.int .i64 x.server) ∧ World.cell? v2 ⟨w.heap.size + 1, 1, none⟩ = some (.int .i64 x.view) ∧ World.cell? v2 ⟨w.heap.size + 1, 2, none⟩ = some (.int .i64 x.length) ∧ World.cell? v2 ⟨w.heap.size + 1, 3, none⟩ = some (.int .i64 x.lockView) ∧ World.cell? v2 ⟨w.heap.size + 1, 4, none⟩ = some (.string ⟨x.lock.toArray⟩) ∧ World.cell? v2 ⟨w.heap.size + 1, 5, none⟩ = some (.slice x.cert.a x.cert.l.length x.cert.c) ∧ World.cell? v2 ⟨w.heap.size + 1, 6, none⟩ = some (.int .i64 x.signed.server) ∧ World.cell? v2 ⟨w.heap.size + 1, 7, none⟩ = some (.int .i64 x.signed.kind) ∧ World.cell? v2 ⟨w.heap.size + 1, 8, none⟩ = some (.int .i64 x.signed.view) ∧ World.cell? v2 ⟨w.heap.size + 1, 9, none⟩ = some (.int .i64 x.signed.slot) ∧ World.cell? v2 ⟨w.heap.size + 1, 10, none⟩ = some (.string ⟨x.signed.digest.toArray⟩) ∧ World.cell? v2 ⟨w.heap.size + 1, 11, none⟩ = some (.string ⟨x.signed.sig.toArray⟩) := ⟨HXx.out.cells 0 _ rfl, HXx.out.cells 1 _ rfl, HXx.out.cells 2 _ rfl, HXx.out.cells 3 _ rfl, HXx.out.cells 4 _ rfl, HXx.out.cells 5 _ rfl, HXx.out.cells 6 _ rfl, HXx.out.cells 7 _ rfl, HXx.out.cells 8 _ rfl, HXx.out.cells 9 _ rfl, HXx.out.cells 10 _ rfl, HXx.out.cells 11 _ rfl⟩
            refine hK.out _ _ hS2 (fun hHeld => ?_)
            clear hK K
            try simp only [Act.put,qk1,qk2,qk3,qk4,qk5,qk6]
            refine tkr 5 rfl (fun K hK => ?_)
            go_simp
            have hs := below_new v2 (.cells #[.int .i64 x.server, .int .i64 x.view, .int .i64 x.length, .int .i64 x.lockView, .string ⟨x.lock.toArray⟩, .slice x.cert.a x.cert.l.length x.cert.c, .int .i64 x.signed.server, .int .i64 x.signed.kind, .int .i64 x.signed.view, .int .i64 x.signed.slot, .string ⟨x.signed.digest.toArray⟩, .string ⟨x.signed.sig.toArray⟩] 62)
            have hsz : w.heap.size + 3 ≤ (World.heap v2).size := HRr.out.lt
            have HA : Hid (Vz (World.alloc v2 (.cells #[.int .i64 x.server, .int .i64 x.view, .int .i64 x.length, .int .i64 x.lockView, .string ⟨x.lock.toArray⟩, .slice x.cert.a x.cert.l.length x.cert.c, .int .i64 x.signed.server, .int .i64 x.signed.kind, .int .i64 x.signed.view, .int .i64 x.signed.slot, .string ⟨x.signed.digest.toArray⟩, .string ⟨x.signed.sig.toArray⟩] 62)) (World.heap v2).size [.int .i64 x.server, .int .i64 x.view, .int .i64 x.length, .int .i64 x.lockView, .string ⟨x.lock.toArray⟩, .slice x.cert.a x.cert.l.length x.cert.c, .int .i64 x.signed.server, .int .i64 x.signed.kind, .int .i64 x.signed.view, .int .i64 x.signed.slot, .string ⟨x.signed.digest.toArray⟩, .string ⟨x.signed.sig.toArray⟩]) := hD (Vz.new v2 [.int .i64 x.server, .int .i64 x.view, .int .i64 x.length, .int .i64 x.lockView, .string ⟨x.lock.toArray⟩, .slice x.cert.a x.cert.l.length x.cert.c, .int .i64 x.signed.server, .int .i64 x.signed.kind, .int .i64 x.signed.view, .int .i64 x.signed.slot, .string ⟨x.signed.digest.toArray⟩, .string ⟨x.signed.sig.toArray⟩] 62)
            have HL := hD (bon HL.out hs)
            have HZ := hD (HZ.out.below hs)
            have HXx := hD (HXx.out.below hs)
            have HRr := hD (HRr.out.below hs)
            have HO1 := hD (ownsRow_below HO1.out hs)
            clear hs hsz
            generalize World.alloc v2 (.cells #[.int .i64 x.server, .int .i64 x.view, .int .i64 x.length, .int .i64 x.lockView, .string ⟨x.lock.toArray⟩, .slice x.cert.a x.cert.l.length x.cert.c, .int .i64 x.signed.server, .int .i64 x.signed.kind, .int .i64 x.signed.view, .int .i64 x.signed.slot, .string ⟨x.signed.digest.toArray⟩, .string ⟨x.signed.sig.toArray⟩] 62) = v3 at HL HZ HXx HRr HO1 HA ⊢
            generalize (World.heap v2).size = gx at HA ⊢
            have hS3 : World.cell? v3 ⟨w.heap.size + 1, 0, none⟩ = some (.int .i64 x.server) ∧ World.cell? v3 ⟨w.heap.size + 1, 1, none⟩ = some (.int .i64 x.view) ∧ World.cell? v3 ⟨w.heap.size + 1, 2, none⟩ = some (.int .i64 x.length) ∧ World.cell? v3 ⟨w.heap.size + 1, 3, none⟩ = some (.int .i64 x.lockView) ∧ World.cell? v3 ⟨w.heap.size + 1, 4, none⟩ = some (.string ⟨x.lock.toArray⟩) ∧ World.cell? v3 ⟨w.heap.size + 1, 5, none⟩ = some (.slice x.cert.a x.cert.l.length x.cert.c) ∧ World.cell? v3 ⟨w.heap.size + 1, 6, none⟩ = some (.int .i64 x.signed.server) ∧ World.cell? v3 ⟨w.heap.size + 1, 7, none⟩ = some (.int .i64 x.signed.kind) ∧ World.cell? v3 ⟨w.heap.size + 1, 8, none⟩ = some (.int .i64 x.signed.view) ∧ World.cell? v3 ⟨w.heap.size + 1, 9, none⟩ = some (.int .i64 x.signed.slot) ∧ World.cell? v3 ⟨w.heap.size + 1, 10, none⟩ = some (.string ⟨x.signed.digest.toArray⟩) ∧ World.cell? v3 ⟨w.heap.size + 1, 11, none⟩ = some (.string ⟨x.signed.sig.toArray⟩) := ⟨HXx.out.cells 0 _ rfl, HXx.out.cells 1 _ rfl, HXx.out.cells 2 _ rfl, HXx.out.cells 3 _ rfl, HXx.out.cells 4 _ rfl, HXx.out.cells 5 _ rfl, HXx.out.cells 6 _ rfl, HXx.out.cells 7 _ rfl, HXx.out.cells 8 _ rfl, HXx.out.cells 9 _ rfl, HXx.out.cells 10 _ rfl, HXx.out.cells 11 _ rfl⟩
            refine hK.out _ _ hS3 (fun hHeld => ?_)
            clear hK K
            try simp only [Act.put,qk1,qk2,qk3,qk4,qk5,qk6]
            refine tkr 6 rfl (fun K hK => ?_)
            refine step_apg elemSt rfl _ _ (by rfl) (w.heap.size + 3) (by rfl) HO1.out (by rfl) (vz_rd HA.out 12 1 rfl) (by simp [Value.oneCell']) (by omega) (by omega) HRr.out.lt ?_
            intro A2 c2 v4 hown hgr
            have hl := fun g hg => (HO1.out.lt g hg).1
            have HO2 : Hid (World.ownsRow v4 (w.heap.size + 3) 62 12 (.slice A2 (ss.length + 1) c2) (ss.length + 1) ((ss ++ [x]).flatMap stC)) := hD (by rw [List.flatMap_append]; simpa [stC, Sl.v] using hown)
            have HL := hD (below_grown HL.out HL.out.size hgr (fun g hg => by have := hl g hg; omega))
            have HZ := hD (HZ.out.grown hgr (fun e => by have := hl _ e; omega))
            have HXx := hD (HXx.out.grown hgr (fun e => by have := hl _ e; omega))
            have HRr := hD (HRr.out.grown hgr (fun e => by have := hl _ e; omega))
            clear hown hgr hl
            have hS4 : World.cell? v4 ⟨w.heap.size + 1, 0, none⟩ = some (.int .i64 x.server) ∧ World.cell? v4 ⟨w.heap.size + 1, 1, none⟩ = some (.int .i64 x.view) ∧ World.cell? v4 ⟨w.heap.size + 1, 2, none⟩ = some (.int .i64 x.length) ∧ World.cell? v4 ⟨w.heap.size + 1, 3, none⟩ = some (.int .i64 x.lockView) ∧ World.cell? v4 ⟨w.heap.size + 1, 4, none⟩ = some (.string ⟨x.lock.toArray⟩) ∧ World.cell? v4 ⟨w.heap.size + 1, 5, none⟩ = some (.slice x.cert.a x.cert.l.length x.cert.c) ∧ World.cell? v4 ⟨w.heap.size + 1, 6, none⟩ = some (.int .i64 x.signed.server) ∧ World.cell? v4 ⟨w.heap.size + 1, 7, none⟩ = some (.int .i64 x.signed.kind) ∧ World.cell? v4 ⟨w.heap.size + 1, 8, none⟩ = some (.int .i64 x.signed.view) ∧ World.cell? v4 ⟨w.heap.size + 1, 9, none⟩ = some (.int .i64 x.signed.slot) ∧ World.cell? v4 ⟨w.heap.size + 1, 10, none⟩ = some (.string ⟨x.signed.digest.toArray⟩) ∧ World.cell? v4 ⟨w.heap.size + 1, 11, none⟩ = some (.string ⟨x.signed.sig.toArray⟩) := ⟨HXx.out.cells 0 _ rfl, HXx.out.cells 1 _ rfl, HXx.out.cells 2 _ rfl, HXx.out.cells 3 _ rfl, HXx.out.cells 4 _ rfl, HXx.out.cells 5 _ rfl, HXx.out.cells 6 _ rfl, HXx.out.cells 7 _ rfl, HXx.out.cells 8 _ rfl, HXx.out.cells 9 _ rfl, HXx.out.cells 10 _ rfl, HXx.out.cells 11 _ rfl⟩
            refine hK.out _ _ hS4 (fun hHeld => ?_)
            clear hK K
            try simp only [Act.put,qk1,qk2,qk3,qk4,qk5,qk6]
            refine takes [7] ?_
            refine tkr 8 rfl (fun K hK => ?_)
            have z0 := HZ.out.cells 0 _ rfl
            have f0 := HZ.out.free 0 (by simp)
            have lz := HZ.out.lt
            go_simp
            have hg := grown_set v4 ⟨w.heap.size, 0, none⟩ (.slice A2 (ss.length + 1) c2)
            have HL := hD (HL.out.setCell (p := ⟨w.heap.size, 0, none⟩) (Nat.le_refl _) (.slice A2 (ss.length + 1) c2))
            have HXx := hD (HXx.out.grown hg (by simp))
            have HRr := hD (HRr.out.grown hg (by simp))
            have HO2 := hD (own_far HO2.out ⟨w.heap.size, 0, none⟩ (.slice A2 (ss.length + 1) c2) (by show w.heap.size < _; omega))
            have HZ := hD ((HZ.out.set 0 (.slice A2 (ss.length + 1) c2)).eq (cs' := [.slice A2 (ss.length + 1) c2, .slice Bv nv dv]) rfl)
            clear z0 f0 lz hg
            generalize World.setCell v4 ⟨w.heap.size, 0, none⟩ (.slice A2 (ss.length + 1) c2) = v5 at HL HXx HRr HO2 HZ ⊢
            have hS5 : World.cell? v5 ⟨w.heap.size + 1, 0, none⟩ = some (.int .i64 x.server) ∧ World.cell? v5 ⟨w.heap.size + 1, 1, none⟩ = some (.int .i64 x.view) ∧ World.cell? v5 ⟨w.heap.size + 1, 2, none⟩ = some (.int .i64 x.length) ∧ World.cell? v5 ⟨w.heap.size + 1, 3, none⟩ = some (.int .i64 x.lockView) ∧ World.cell? v5 ⟨w.heap.size + 1, 4, none⟩ = some (.string ⟨x.lock.toArray⟩) ∧ World.cell? v5 ⟨w.heap.size + 1, 5, none⟩ = some (.slice x.cert.a x.cert.l.length x.cert.c) ∧ World.cell? v5 ⟨w.heap.size + 1, 6, none⟩ = some (.int .i64 x.signed.server) ∧ World.cell? v5 ⟨w.heap.size + 1, 7, none⟩ = some (.int .i64 x.signed.kind) ∧ World.cell? v5 ⟨w.heap.size + 1, 8, none⟩ = some (.int .i64 x.signed.view) ∧ World.cell? v5 ⟨w.heap.size + 1, 9, none⟩ = some (.int .i64 x.signed.slot) ∧ World.cell? v5 ⟨w.heap.size + 1, 10, none⟩ = some (.string ⟨x.signed.digest.toArray⟩) ∧ World.cell? v5 ⟨w.heap.size + 1, 11, none⟩ = some (.string ⟨x.signed.sig.toArray⟩) := ⟨HXx.out.cells 0 _ rfl, HXx.out.cells 1 _ rfl, HXx.out.cells 2 _ rfl, HXx.out.cells 3 _ rfl, HXx.out.cells 4 _ rfl, HXx.out.cells 5 _ rfl, HXx.out.cells 6 _ rfl, HXx.out.cells 7 _ rfl, HXx.out.cells 8 _ rfl, HXx.out.cells 9 _ rfl, HXx.out.cells 10 _ rfl, HXx.out.cells 11 _ rfl⟩
            refine hK.out _ _ hS5 (fun hHeld => ?_)
            clear hK K
            try simp only [Act.put,qk1,qk2,qk3,qk4,qk5,qk6]
            refine wpAnyH_done (by kernel_rfl) ?_ _
            refine NoPanic.normal ?_
            go_wp2_with fail
            go_meet
            case rel => exact ⟨A2, c2, HL.out, HZ.out, HRr.out, HO2.out⟩
          · go_simp
            have hs := below_new v1 (.cells #[.int .i64 x.server, .int .i64 x.view, .int .i64 x.length, .int .i64 x.lockView, .string ⟨x.lock.toArray⟩, .slice x.cert.a x.cert.l.length x.cert.c, .int .i64 x.signed.server, .int .i64 x.signed.kind, .int .i64 x.signed.view, .int .i64 x.signed.slot, .string ⟨x.signed.digest.toArray⟩, .string ⟨x.signed.sig.toArray⟩] 62)
            have hsz : w.heap.size + 3 ≤ (World.heap v1).size := HRr.out.lt
            have hne : g0 ≠ (World.heap v1).size := by have := (HO0.out.lt g0 rfl).2; omega
            have HA : Hid (Vz (World.alloc v1 (.cells #[.int .i64 x.server, .int .i64 x.view, .int .i64 x.length, .int .i64 x.lockView, .string ⟨x.lock.toArray⟩, .slice x.cert.a x.cert.l.length x.cert.c, .int .i64 x.signed.server, .int .i64 x.signed.kind, .int .i64 x.signed.view, .int .i64 x.signed.slot, .string ⟨x.signed.digest.toArray⟩, .string ⟨x.signed.sig.toArray⟩] 62)) (World.heap v1).size [.int .i64 x.server, .int .i64 x.view, .int .i64 x.length, .int .i64 x.lockView, .string ⟨x.lock.toArray⟩, .slice x.cert.a x.cert.l.length x.cert.c, .int .i64 x.signed.server, .int .i64 x.signed.kind, .int .i64 x.signed.view, .int .i64 x.signed.slot, .string ⟨x.signed.digest.toArray⟩, .string ⟨x.signed.sig.toArray⟩]) := hD (Vz.new v1 [.int .i64 x.server, .int .i64 x.view, .int .i64 x.length, .int .i64 x.lockView, .string ⟨x.lock.toArray⟩, .slice x.cert.a x.cert.l.length x.cert.c, .int .i64 x.signed.server, .int .i64 x.signed.kind, .int .i64 x.signed.view, .int .i64 x.signed.slot, .string ⟨x.signed.digest.toArray⟩, .string ⟨x.signed.sig.toArray⟩] 62)
            have HL := hD (bon HL.out hs)
            have HZ := hD (HZ.out.below hs)
            have HXx := hD (HXx.out.below hs)
            have HRr := hD (HRr.out.below hs)
            have HO0 := hD (ownsRow_below HO0.out hs)
            clear hs hsz
            generalize World.alloc v1 (.cells #[.int .i64 x.server, .int .i64 x.view, .int .i64 x.length, .int .i64 x.lockView, .string ⟨x.lock.toArray⟩, .slice x.cert.a x.cert.l.length x.cert.c, .int .i64 x.signed.server, .int .i64 x.signed.kind, .int .i64 x.signed.view, .int .i64 x.signed.slot, .string ⟨x.signed.digest.toArray⟩, .string ⟨x.signed.sig.toArray⟩] 62) = v2 at HL HZ HXx HRr HO0 HA ⊢
            generalize (World.heap v1).size = gx at HA hne ⊢
            have hS2 : World.cell? v2 ⟨w.heap.size + 1, 0, none⟩ = some (.int .i64 x.server) ∧ World.cell? v2 ⟨w.heap.size + 1, 1, none⟩ = some (.int .i64 x.view) ∧ World.cell? v2 ⟨w.heap.size + 1, 2, none⟩ = some (.int .i64 x.length) ∧ World.cell? v2 ⟨w.heap.size + 1, 3, none⟩ = some (.int .i64 x.lockView) ∧ World.cell? v2 ⟨w.heap.size + 1, 4, none⟩ = some (.string ⟨x.lock.toArray⟩) ∧ World.cell? v2 ⟨w.heap.size + 1, 5, none⟩ = some (.slice x.cert.a x.cert.l.length x.cert.c) ∧ World.cell? v2 ⟨w.heap.size + 1, 6, none⟩ = some (.int .i64 x.signed.server) ∧ World.cell? v2 ⟨w.heap.size + 1, 7, none⟩ = some (.int .i64 x.signed.kind) ∧ World.cell? v2 ⟨w.heap.size + 1, 8, none⟩ = some (.int .i64 x.signed.view) ∧ World.cell? v2 ⟨w.heap.size + 1, 9, none⟩ = some (.int .i64 x.signed.slot) ∧ World.cell? v2 ⟨w.heap.size + 1, 10, none⟩ = some (.string ⟨x.signed.digest.toArray⟩) ∧ World.cell? v2 ⟨w.heap.size + 1, 11, none⟩ = some (.string ⟨x.signed.sig.toArray⟩) := ⟨HXx.out.cells 0 _ rfl, HXx.out.cells 1 _ rfl, HXx.out.cells 2 _ rfl, HXx.out.cells 3 _ rfl, HXx.out.cells 4 _ rfl, HXx.out.cells 5 _ rfl, HXx.out.cells 6 _ rfl, HXx.out.cells 7 _ rfl, HXx.out.cells 8 _ rfl, HXx.out.cells 9 _ rfl, HXx.out.cells 10 _ rfl, HXx.out.cells 11 _ rfl⟩
            refine hK.out _ _ hS2 (fun hHeld => ?_)
            clear hK K
            try simp only [Act.put,qk1,qk2,qk3,qk4,qk5,qk6]
            refine tkr 3 rfl (fun K hK => ?_)
            refine step_apg elemSt rfl _ _ (by rfl) (w.heap.size + 3) (by rfl) HO0.out (by rfl) (HSs.out _ HL.out) (stC_one ss) (by omega) (by omega) HRr.out.lt ?_
            intro A1 c1 v3 hown hgr
            have hl := fun g hg => (HO0.out.lt g hg).1
            have HO1 : Hid (World.ownsRow v3 (w.heap.size + 3) 62 12 (.slice A1 ss.length c1) ss.length (ss.flatMap stC)) := hD (by simpa using hown)
            have HL := hD (below_grown HL.out HL.out.size hgr (fun g hg => by have := hl g hg; omega))
            have HZ := hD (HZ.out.grown hgr (fun e => by have := hl _ e; omega))
            have HXx := hD (HXx.out.grown hgr (fun e => by have := hl _ e; omega))
            have HRr := hD (HRr.out.grown hgr (fun e => by have := hl _ e; omega))
            have HA := hD (HA.out.grown hgr (fun e => hne (by simpa [Value.ownBlock] using e)))
            clear hown hgr hl
            try simp only [Nat.zero_add]
            have hS3 : World.cell? v3 ⟨w.heap.size + 1, 0, none⟩ = some (.int .i64 x.server) ∧ World.cell? v3 ⟨w.heap.size + 1, 1, none⟩ = some (.int .i64 x.view) ∧ World.cell? v3 ⟨w.heap.size + 1, 2, none⟩ = some (.int .i64 x.length) ∧ World.cell? v3 ⟨w.heap.size + 1, 3, none⟩ = some (.int .i64 x.lockView) ∧ World.cell? v3 ⟨w.heap.size + 1, 4, none⟩ = some (.string ⟨x.lock.toArray⟩) ∧ World.cell? v3 ⟨w.heap.size + 1, 5, none⟩ = some (.slice x.cert.a x.cert.l.length x.cert.c) ∧ World.cell? v3 ⟨w.heap.size + 1, 6, none⟩ = some (.int .i64 x.signed.server) ∧ World.cell? v3 ⟨w.heap.size + 1, 7, none⟩ = some (.int .i64 x.signed.kind) ∧ World.cell? v3 ⟨w.heap.size + 1, 8, none⟩ = some (.int .i64 x.signed.view) ∧ World.cell? v3 ⟨w.heap.size + 1, 9, none⟩ = some (.int .i64 x.signed.slot) ∧ World.cell? v3 ⟨w.heap.size + 1, 10, none⟩ = some (.string ⟨x.signed.digest.toArray⟩) ∧ World.cell? v3 ⟨w.heap.size + 1, 11, none⟩ = some (.string ⟨x.signed.sig.toArray⟩) := ⟨HXx.out.cells 0 _ rfl, HXx.out.cells 1 _ rfl, HXx.out.cells 2 _ rfl, HXx.out.cells 3 _ rfl, HXx.out.cells 4 _ rfl, HXx.out.cells 5 _ rfl, HXx.out.cells 6 _ rfl, HXx.out.cells 7 _ rfl, HXx.out.cells 8 _ rfl, HXx.out.cells 9 _ rfl, HXx.out.cells 10 _ rfl, HXx.out.cells 11 _ rfl⟩
            refine hK.out _ _ hS3 (fun hHeld => ?_)
            clear hK K
            try simp only [Act.put,qk1,qk2,qk3,qk4,qk5,qk6]
            refine tkr 6 rfl (fun K hK => ?_)
            refine step_apg elemSt rfl _ _ (by rfl) (w.heap.size + 3) (by rfl) HO1.out (by rfl) (vz_rd HA.out 12 1 rfl) (by simp [Value.oneCell']) (by omega) (by omega) HRr.out.lt ?_
            intro A2 c2 v4 hown hgr
            have hl := fun g hg => (HO1.out.lt g hg).1
            have HO2 : Hid (World.ownsRow v4 (w.heap.size + 3) 62 12 (.slice A2 (ss.length + 1) c2) (ss.length + 1) ((ss ++ [x]).flatMap stC)) := hD (by rw [List.flatMap_append]; simpa [stC, Sl.v] using hown)
            have HL := hD (below_grown HL.out HL.out.size hgr (fun g hg => by have := hl g hg; omega))
            have HZ := hD (HZ.out.grown hgr (fun e => by have := hl _ e; omega))
            have HXx := hD (HXx.out.grown hgr (fun e => by have := hl _ e; omega))
            have HRr := hD (HRr.out.grown hgr (fun e => by have := hl _ e; omega))
            clear hown hgr hl
            have hS4 : World.cell? v4 ⟨w.heap.size + 1, 0, none⟩ = some (.int .i64 x.server) ∧ World.cell? v4 ⟨w.heap.size + 1, 1, none⟩ = some (.int .i64 x.view) ∧ World.cell? v4 ⟨w.heap.size + 1, 2, none⟩ = some (.int .i64 x.length) ∧ World.cell? v4 ⟨w.heap.size + 1, 3, none⟩ = some (.int .i64 x.lockView) ∧ World.cell? v4 ⟨w.heap.size + 1, 4, none⟩ = some (.string ⟨x.lock.toArray⟩) ∧ World.cell? v4 ⟨w.heap.size + 1, 5, none⟩ = some (.slice x.cert.a x.cert.l.length x.cert.c) ∧ World.cell? v4 ⟨w.heap.size + 1, 6, none⟩ = some (.int .i64 x.signed.server) ∧ World.cell? v4 ⟨w.heap.size + 1, 7, none⟩ = some (.int .i64 x.signed.kind) ∧ World.cell? v4 ⟨w.heap.size + 1, 8, none⟩ = some (.int .i64 x.signed.view) ∧ World.cell? v4 ⟨w.heap.size + 1, 9, none⟩ = some (.int .i64 x.signed.slot) ∧ World.cell? v4 ⟨w.heap.size + 1, 10, none⟩ = some (.string ⟨x.signed.digest.toArray⟩) ∧ World.cell? v4 ⟨w.heap.size + 1, 11, none⟩ = some (.string ⟨x.signed.sig.toArray⟩) := ⟨HXx.out.cells 0 _ rfl, HXx.out.cells 1 _ rfl, HXx.out.cells 2 _ rfl, HXx.out.cells 3 _ rfl, HXx.out.cells 4 _ rfl, HXx.out.cells 5 _ rfl, HXx.out.cells 6 _ rfl, HXx.out.cells 7 _ rfl, HXx.out.cells 8 _ rfl, HXx.out.cells 9 _ rfl, HXx.out.cells 10 _ rfl, HXx.out.cells 11 _ rfl⟩
            refine hK.out _ _ hS4 (fun hHeld => ?_)
            clear hK K
            try simp only [Act.put,qk1,qk2,qk3,qk4,qk5,qk6]
            refine takes [7] ?_
            refine tkr 8 rfl (fun K hK => ?_)
            have z0 := HZ.out.cells 0 _ rfl
            have f0 := HZ.out.free 0 (by simp)
            have lz := HZ.out.lt
            go_simp
            have hg := grown_set v4 ⟨w.heap.size, 0, none⟩ (.slice A2 (ss.length + 1) c2)
            have HL := hD (HL.out.setCell (p := ⟨w.heap.size, 0, none⟩) (Nat.le_refl _) (.slice A2 (ss.length + 1) c2))
            have HXx := hD (HXx.out.grown hg (by simp))
            have HRr := hD (HRr.out.grown hg (by simp))
            have HO2 := hD (own_far HO2.out ⟨w.heap.size, 0, none⟩ (.slice A2 (ss.length + 1) c2) (by show w.heap.size < _; omega))
            have HZ := hD ((HZ.out.set 0 (.slice A2 (ss.length + 1) c2)).eq (cs' := [.slice A2 (ss.length + 1) c2, .slice Bv nv dv]) rfl)
            clear z0 f0 lz hg
            generalize World.setCell v4 ⟨w.heap.size, 0, none⟩ (.slice A2 (ss.length + 1) c2) = v5 at HL HXx HRr HO2 HZ ⊢
            have hS5 : World.cell? v5 ⟨w.heap.size + 1, 0, none⟩ = some (.int .i64 x.server) ∧ World.cell? v5 ⟨w.heap.size + 1, 1, none⟩ = some (.int .i64 x.view) ∧ World.cell? v5 ⟨w.heap.size + 1, 2, none⟩ = some (.int .i64 x.length) ∧ World.cell? v5 ⟨w.heap.size + 1, 3, none⟩ = some (.int .i64 x.lockView) ∧ World.cell? v5 ⟨w.heap.size + 1, 4, none⟩ = some (.string ⟨x.lock.toArray⟩) ∧ World.cell? v5 ⟨w.heap.size + 1, 5, none⟩ = some (.slice x.cert.a x.cert.l.length x.cert.c) ∧ World.cell? v5 ⟨w.heap.size + 1, 6, none⟩ = some (.int .i64 x.signed.server) ∧ World.cell? v5 ⟨w.heap.size + 1, 7, none⟩ = some (.int .i64 x.signed.kind) ∧ World.cell? v5 ⟨w.heap.size + 1, 8, none⟩ = some (.int .i64 x.signed.view) ∧ World.cell? v5 ⟨w.heap.size + 1, 9, none⟩ = some (.int .i64 x.signed.slot) ∧ World.cell? v5 ⟨w.heap.size + 1, 10, none⟩ = some (.string ⟨x.signed.digest.toArray⟩) ∧ World.cell? v5 ⟨w.heap.size + 1, 11, none⟩ = some (.string ⟨x.signed.sig.toArray⟩) := ⟨HXx.out.cells 0 _ rfl, HXx.out.cells 1 _ rfl, HXx.out.cells 2 _ rfl, HXx.out.cells 3 _ rfl, HXx.out.cells 4 _ rfl, HXx.out.cells 5 _ rfl, HXx.out.cells 6 _ rfl, HXx.out.cells 7 _ rfl, HXx.out.cells 8 _ rfl, HXx.out.cells 9 _ rfl, HXx.out.cells 10 _ rfl, HXx.out.cells 11 _ rfl⟩
            refine hK.out _ _ hS5 (fun hHeld => ?_)
            clear hK K
            try simp only [Act.put,qk1,qk2,qk3,qk4,qk5,qk6]
            refine wpAnyH_done (by kernel_rfl) ?_ _
            refine NoPanic.normal ?_
            go_wp2_with fail
            go_meet
            case rel => exact ⟨A2, c2, HL.out, HZ.out, HRr.out, HO2.out⟩
        · go_simp
          have hs := below_new v0 (.cells #[.int .i64 x.server, .int .i64 x.view, .int .i64 x.length, .int .i64 x.lockView, .string ⟨x.lock.toArray⟩, .slice x.cert.a x.cert.l.length x.cert.c, .int .i64 x.signed.server, .int .i64 x.signed.kind, .int .i64 x.signed.view, .int .i64 x.signed.slot, .string ⟨x.signed.digest.toArray⟩, .string ⟨x.signed.sig.toArray⟩] 62)
          have hsz : w.heap.size + 3 ≤ (World.heap v0).size := HRr.out.lt
          have HA : Hid (Vz (World.alloc v0 (.cells #[.int .i64 x.server, .int .i64 x.view, .int .i64 x.length, .int .i64 x.lockView, .string ⟨x.lock.toArray⟩, .slice x.cert.a x.cert.l.length x.cert.c, .int .i64 x.signed.server, .int .i64 x.signed.kind, .int .i64 x.signed.view, .int .i64 x.signed.slot, .string ⟨x.signed.digest.toArray⟩, .string ⟨x.signed.sig.toArray⟩] 62)) (World.heap v0).size [.int .i64 x.server, .int .i64 x.view, .int .i64 x.length, .int .i64 x.lockView, .string ⟨x.lock.toArray⟩, .slice x.cert.a x.cert.l.length x.cert.c, .int .i64 x.signed.server, .int .i64 x.signed.kind, .int .i64 x.signed.view, .int .i64 x.signed.slot, .string ⟨x.signed.digest.toArray⟩, .string ⟨x.signed.sig.toArray⟩]) := hD (Vz.new v0 [.int .i64 x.server, .int .i64 x.view, .int .i64 x.length, .int .i64 x.lockView, .string ⟨x.lock.toArray⟩, .slice x.cert.a x.cert.l.length x.cert.c, .int .i64 x.signed.server, .int .i64 x.signed.kind, .int .i64 x.signed.view, .int .i64 x.signed.slot, .string ⟨x.signed.digest.toArray⟩, .string ⟨x.signed.sig.toArray⟩] 62)
          have HL := hD (bon HL.out hs)
          have HZ := hD (HZ.out.below hs)
          have HXx := hD (HXx.out.below hs)
          have HRr := hD (HRr.out.below hs)
          clear hs hsz
          generalize World.alloc v0 (.cells #[.int .i64 x.server, .int .i64 x.view, .int .i64 x.length, .int .i64 x.lockView, .string ⟨x.lock.toArray⟩, .slice x.cert.a x.cert.l.length x.cert.c, .int .i64 x.signed.server, .int .i64 x.signed.kind, .int .i64 x.signed.view, .int .i64 x.signed.slot, .string ⟨x.signed.digest.toArray⟩, .string ⟨x.signed.sig.toArray⟩] 62) = v1 at HL HZ HXx HRr HA ⊢
          generalize (World.heap v0).size = gx at HA ⊢
          have hS1 : World.cell? v1 ⟨w.heap.size + 1, 0, none⟩ = some (.int .i64 x.server) ∧ World.cell? v1 ⟨w.heap.size + 1, 1, none⟩ = some (.int .i64 x.view) ∧ World.cell? v1 ⟨w.heap.size + 1, 2, none⟩ = some (.int .i64 x.length) ∧ World.cell? v1 ⟨w.heap.size + 1, 3, none⟩ = some (.int .i64 x.lockView) ∧ World.cell? v1 ⟨w.heap.size + 1, 4, none⟩ = some (.string ⟨x.lock.toArray⟩) ∧ World.cell? v1 ⟨w.heap.size + 1, 5, none⟩ = some (.slice x.cert.a x.cert.l.length x.cert.c) ∧ World.cell? v1 ⟨w.heap.size + 1, 6, none⟩ = some (.int .i64 x.signed.server) ∧ World.cell? v1 ⟨w.heap.size + 1, 7, none⟩ = some (.int .i64 x.signed.kind) ∧ World.cell? v1 ⟨w.heap.size + 1, 8, none⟩ = some (.int .i64 x.signed.view) ∧ World.cell? v1 ⟨w.heap.size + 1, 9, none⟩ = some (.int .i64 x.signed.slot) ∧ World.cell? v1 ⟨w.heap.size + 1, 10, none⟩ = some (.string ⟨x.signed.digest.toArray⟩) ∧ World.cell? v1 ⟨w.heap.size + 1, 11, none⟩ = some (.string ⟨x.signed.sig.toArray⟩) := ⟨HXx.out.cells 0 _ rfl, HXx.out.cells 1 _ rfl, HXx.out.cells 2 _ rfl, HXx.out.cells 3 _ rfl, HXx.out.cells 4 _ rfl, HXx.out.cells 5 _ rfl, HXx.out.cells 6 _ rfl, HXx.out.cells 7 _ rfl, HXx.out.cells 8 _ rfl, HXx.out.cells 9 _ rfl, HXx.out.cells 10 _ rfl, HXx.out.cells 11 _ rfl⟩
          refine hK.out _ _ hS1 (fun hHeld => ?_)
          clear hK K
          try simp only [Act.put,qk1,qk2,qk3,qk4,qk5,qk6]
          refine tkr 0 rfl (fun K hK => ?_)
          go_simp
          have hs := below_new v1 (.cells #[] 62)
          have hsz : w.heap.size + 3 ≤ (World.heap v1).size := HRr.out.lt
          have hne : (World.heap v1).size ≠ gx := by have := HA.out.lt; omega
          have HO0 : Hid (World.ownsRow (World.alloc v1 (.cells #[] 62)) (w.heap.size + 3) 62 12 (.slice (some ⟨(World.heap v1).size, 0, none⟩) 0 0) 0 []) := hD (World.ownsRow_lit (base := w.heap.size + 3) (e := 62) (size := 12) v1 #[] 0 hsz (by simp) rfl)
          have HL := hD (bon HL.out hs)
          have HZ := hD (HZ.out.below hs)
          have HXx := hD (HXx.out.below hs)
          have HRr := hD (HRr.out.below hs)
          have HA := hD (HA.out.below hs)
          clear hs hsz
          generalize World.alloc v1 (.cells #[] 62) = v2 at HL HZ HXx HRr HO0 HA ⊢
          generalize (World.heap v1).size = g0 at HO0 hne ⊢
          have hS2 : World.cell? v2 ⟨w.heap.size + 1, 0, none⟩ = some (.int .i64 x.server) ∧ World.cell? v2 ⟨w.heap.size + 1, 1, none⟩ = some (.int .i64 x.view) ∧ World.cell? v2 ⟨w.heap.size + 1, 2, none⟩ = some (.int .i64 x.length) ∧ World.cell? v2 ⟨w.heap.size + 1, 3, none⟩ = some (.int .i64 x.lockView) ∧ World.cell? v2 ⟨w.heap.size + 1, 4, none⟩ = some (.string ⟨x.lock.toArray⟩) ∧ World.cell? v2 ⟨w.heap.size + 1, 5, none⟩ = some (.slice x.cert.a x.cert.l.length x.cert.c) ∧ World.cell? v2 ⟨w.heap.size + 1, 6, none⟩ = some (.int .i64 x.signed.server) ∧ World.cell? v2 ⟨w.heap.size + 1, 7, none⟩ = some (.int .i64 x.signed.kind) ∧ World.cell? v2 ⟨w.heap.size + 1, 8, none⟩ = some (.int .i64 x.signed.view) ∧ World.cell? v2 ⟨w.heap.size + 1, 9, none⟩ = some (.int .i64 x.signed.slot) ∧ World.cell? v2 ⟨w.heap.size + 1, 10, none⟩ = some (.string ⟨x.signed.digest.toArray⟩) ∧ World.cell? v2 ⟨w.heap.size + 1, 11, none⟩ = some (.string ⟨x.signed.sig.toArray⟩) := ⟨HXx.out.cells 0 _ rfl, HXx.out.cells 1 _ rfl, HXx.out.cells 2 _ rfl, HXx.out.cells 3 _ rfl, HXx.out.cells 4 _ rfl, HXx.out.cells 5 _ rfl, HXx.out.cells 6 _ rfl, HXx.out.cells 7 _ rfl, HXx.out.cells 8 _ rfl, HXx.out.cells 9 _ rfl, HXx.out.cells 10 _ rfl, HXx.out.cells 11 _ rfl⟩
          refine hK.out _ _ hS2 (fun hHeld => ?_)
          clear hK K
          try simp only [Act.put,qk1,qk2,qk3,qk4,qk5,qk6]
          refine tkr 3 rfl (fun K hK => ?_)
          refine step_apg elemSt rfl _ _ (by rfl) (w.heap.size + 3) (by rfl) HO0.out (by rfl) (HSs.out _ HL.out) (stC_one ss) (by omega) (by omega) HRr.out.lt ?_
          intro A1 c1 v3 hown hgr
          have hl := fun g hg => (HO0.out.lt g hg).1
          have HO1 : Hid (World.ownsRow v3 (w.heap.size + 3) 62 12 (.slice A1 ss.length c1) ss.length (ss.flatMap stC)) := hD (by simpa using hown)
          have HL := hD (below_grown HL.out HL.out.size hgr (fun g hg => by have := hl g hg; omega))
          have HZ := hD (HZ.out.grown hgr (fun e => by have := hl _ e; omega))
          have HXx := hD (HXx.out.grown hgr (fun e => by have := hl _ e; omega))
          have HRr := hD (HRr.out.grown hgr (fun e => by have := hl _ e; omega))
          have HA := hD (HA.out.grown hgr (fun e => hne (by simpa [Value.ownBlock] using e)))
          clear hown hgr hl
          try simp only [Nat.zero_add]
          have hS3 : World.cell? v3 ⟨w.heap.size + 1, 0, none⟩ = some (.int .i64 x.server) ∧ World.cell? v3 ⟨w.heap.size + 1, 1, none⟩ = some (.int .i64 x.view) ∧ World.cell? v3 ⟨w.heap.size + 1, 2, none⟩ = some (.int .i64 x.length) ∧ World.cell? v3 ⟨w.heap.size + 1, 3, none⟩ = some (.int .i64 x.lockView) ∧ World.cell? v3 ⟨w.heap.size + 1, 4, none⟩ = some (.string ⟨x.lock.toArray⟩) ∧ World.cell? v3 ⟨w.heap.size + 1, 5, none⟩ = some (.slice x.cert.a x.cert.l.length x.cert.c) ∧ World.cell? v3 ⟨w.heap.size + 1, 6, none⟩ = some (.int .i64 x.signed.server) ∧ World.cell? v3 ⟨w.heap.size + 1, 7, none⟩ = some (.int .i64 x.signed.kind) ∧ World.cell? v3 ⟨w.heap.size + 1, 8, none⟩ = some (.int .i64 x.signed.view) ∧ World.cell? v3 ⟨w.heap.size + 1, 9, none⟩ = some (.int .i64 x.signed.slot) ∧ World.cell? v3 ⟨w.heap.size + 1, 10, none⟩ = some (.string ⟨x.signed.digest.toArray⟩) ∧ World.cell? v3 ⟨w.heap.size + 1, 11, none⟩ = some (.string ⟨x.signed.sig.toArray⟩) := ⟨HXx.out.cells 0 _ rfl, HXx.out.cells 1 _ rfl, HXx.out.cells 2 _ rfl, HXx.out.cells 3 _ rfl, HXx.out.cells 4 _ rfl, HXx.out.cells 5 _ rfl, HXx.out.cells 6 _ rfl, HXx.out.cells 7 _ rfl, HXx.out.cells 8 _ rfl, HXx.out.cells 9 _ rfl, HXx.out.cells 10 _ rfl, HXx.out.cells 11 _ rfl⟩
          refine hK.out _ _ hS3 (fun hHeld => ?_)
          clear hK K
          try simp only [Act.put,qk1,qk2,qk3,qk4,qk5,qk6]
          refine tkr 6 rfl (fun K hK => ?_)
          refine step_apg elemSt rfl _ _ (by rfl) (w.heap.size + 3) (by rfl) HO1.out (by rfl) (vz_rd HA.out 12 1 rfl) (by simp [Value.oneCell']) (by omega) (by omega) HRr.out.lt ?_
          intro A2 c2 v4 hown hgr
          have hl := fun g hg => (HO1.out.lt g hg).1
          have HO2 : Hid (World.ownsRow v4 (w.heap.size + 3) 62 12 (.slice A2 (ss.length + 1) c2) (ss.length + 1) ((ss ++ [x]).flatMap stC)) := hD (by rw [List.flatMap_append]; simpa [stC, Sl.v] using hown)
          have HL := hD (below_grown HL.out HL.out.size hgr (fun g hg => by have := hl g hg; omega))
          have HZ := hD (HZ.out.grown hgr (fun e => by have := hl _ e; omega))
          have HXx := hD (HXx.out.grown hgr (fun e => by have := hl _ e; omega))
          have HRr := hD (HRr.out.grown hgr (fun e => by have := hl _ e; omega))
          clear hown hgr hl
          have hS4 : World.cell? v4 ⟨w.heap.size + 1, 0, none⟩ = some (.int .i64 x.server) ∧ World.cell? v4 ⟨w.heap.size + 1, 1, none⟩ = some (.int .i64 x.view) ∧ World.cell? v4 ⟨w.heap.size + 1, 2, none⟩ = some (.int .i64 x.length) ∧ World.cell? v4 ⟨w.heap.size + 1, 3, none⟩ = some (.int .i64 x.lockView) ∧ World.cell? v4 ⟨w.heap.size + 1, 4, none⟩ = some (.string ⟨x.lock.toArray⟩) ∧ World.cell? v4 ⟨w.heap.size + 1, 5, none⟩ = some (.slice x.cert.a x.cert.l.length x.cert.c) ∧ World.cell? v4 ⟨w.heap.size + 1, 6, none⟩ = some (.int .i64 x.signed.server) ∧ World.cell? v4 ⟨w.heap.size + 1, 7, none⟩ = some (.int .i64 x.signed.kind) ∧ World.cell? v4 ⟨w.heap.size + 1, 8, none⟩ = some (.int .i64 x.signed.view) ∧ World.cell? v4 ⟨w.heap.size + 1, 9, none⟩ = some (.int .i64 x.signed.slot) ∧ World.cell? v4 ⟨w.heap.size + 1, 10, none⟩ = some (.string ⟨x.signed.digest.toArray⟩) ∧ World.cell? v4 ⟨w.heap.size + 1, 11, none⟩ = some (.string ⟨x.signed.sig.toArray⟩) := ⟨HXx.out.cells 0 _ rfl, HXx.out.cells 1 _ rfl, HXx.out.cells 2 _ rfl, HXx.out.cells 3 _ rfl, HXx.out.cells 4 _ rfl, HXx.out.cells 5 _ rfl, HXx.out.cells 6 _ rfl, HXx.out.cells 7 _ rfl, HXx.out.cells 8 _ rfl, HXx.out.cells 9 _ rfl, HXx.out.cells 10 _ rfl, HXx.out.cells 11 _ rfl⟩
          refine hK.out _ _ hS4 (fun hHeld => ?_)
          clear hK K
          try simp only [Act.put,qk1,qk2,qk3,qk4,qk5,qk6]
          refine takes [7] ?_
          refine tkr 8 rfl (fun K hK => ?_)
          have z0 := HZ.out.cells 0 _ rfl
          have f0 := HZ.out.free 0 (by simp)
          have lz := HZ.out.lt
          go_simp
          have hg := grown_set v4 ⟨w.heap.size, 0, none⟩ (.slice A2 (ss.length + 1) c2)
          have HL := hD (HL.out.setCell (p := ⟨w.heap.size, 0, none⟩) (Nat.le_refl _) (.slice A2 (ss.length + 1) c2))
          have HXx := hD (HXx.out.grown hg (by simp))
          have HRr := hD (HRr.out.grown hg (by simp))
          have HO2 := hD (own_far HO2.out ⟨w.heap.size, 0, none⟩ (.slice A2 (ss.length + 1) c2) (by show w.heap.size < _; omega))
          have HZ := hD ((HZ.out.set 0 (.slice A2 (ss.length + 1) c2)).eq (cs' := [.slice A2 (ss.length + 1) c2, .slice Bv nv dv]) rfl)
          clear z0 f0 lz hg
          generalize World.setCell v4 ⟨w.heap.size, 0, none⟩ (.slice A2 (ss.length + 1) c2) = v5 at HL HXx HRr HO2 HZ ⊢
          have hS5 : World.cell? v5 ⟨w.heap.size + 1, 0, none⟩ = some (.int .i64 x.server) ∧ World.cell? v5 ⟨w.heap.size + 1, 1, none⟩ = some (.int .i64 x.view) ∧ World.cell? v5 ⟨w.heap.size + 1, 2, none⟩ = some (.int .i64 x.length) ∧ World.cell? v5 ⟨w.heap.size + 1, 3, none⟩ = some (.int .i64 x.lockView) ∧ World.cell? v5 ⟨w.heap.size + 1, 4, none⟩ = some (.string ⟨x.lock.toArray⟩) ∧ World.cell? v5 ⟨w.heap.size + 1, 5, none⟩ = some (.slice x.cert.a x.cert.l.length x.cert.c) ∧ World.cell? v5 ⟨w.heap.size + 1, 6, none⟩ = some (.int .i64 x.signed.server) ∧ World.cell? v5 ⟨w.heap.size + 1, 7, none⟩ = some (.int .i64 x.signed.kind) ∧ World.cell? v5 ⟨w.heap.size + 1, 8, none⟩ = some (.int .i64 x.signed.view) ∧ World.cell? v5 ⟨w.heap.size + 1, 9, none⟩ = some (.int .i64 x.signed.slot) ∧ World.cell? v5 ⟨w.heap.size + 1, 10, none⟩ = some (.string ⟨x.signed.digest.toArray⟩) ∧ World.cell? v5 ⟨w.heap.size + 1, 11, none⟩ = some (.string ⟨x.signed.sig.toArray⟩) := ⟨HXx.out.cells 0 _ rfl, HXx.out.cells 1 _ rfl, HXx.out.cells 2 _ rfl, HXx.out.cells 3 _ rfl, HXx.out.cells 4 _ rfl, HXx.out.cells 5 _ rfl, HXx.out.cells 6 _ rfl, HXx.out.cells 7 _ rfl, HXx.out.cells 8 _ rfl, HXx.out.cells 9 _ rfl, HXx.out.cells 10 _ rfl, HXx.out.cells 11 _ rfl⟩
          refine hK.out _ _ hS5 (fun hHeld => ?_)
          clear hK K
          try simp only [Act.put,qk1,qk2,qk3,qk4,qk5,qk6]
          refine wpAnyH_done (by kernel_rfl) ?_ _
          refine NoPanic.normal ?_
          go_wp2_with fail
          go_meet
          case rel => exact ⟨A2, c2, HL.out, HZ.out, HRr.out, HO2.out⟩
      · go_simp
        have hs := below_new v0 (.cells #[.int .i64 x.server, .int .i64 x.view, .int .i64 x.length, .int .i64 x.lockView, .string ⟨x.lock.toArray⟩, .slice x.cert.a x.cert.l.length x.cert.c, .int .i64 x.signed.server, .int .i64 x.signed.kind, .int .i64 x.signed.view, .int .i64 x.signed.slot, .string ⟨x.signed.digest.toArray⟩, .string ⟨x.signed.sig.toArray⟩] 62)
        have hsz : w.heap.size + 3 ≤ (World.heap v0).size := HRr.out.lt
        have HA : Hid (Vz (World.alloc v0 (.cells #[.int .i64 x.server, .int .i64 x.view, .int .i64 x.length, .int .i64 x.lockView, .string ⟨x.lock.toArray⟩, .slice x.cert.a x.cert.l.length x.cert.c, .int .i64 x.signed.server, .int .i64 x.signed.kind, .int .i64 x.signed.view, .int .i64 x.signed.slot, .string ⟨x.signed.digest.toArray⟩, .string ⟨x.signed.sig.toArray⟩] 62)) (World.heap v0).size [.int .i64 x.server, .int .i64 x.view, .int .i64 x.length, .int .i64 x.lockView, .string ⟨x.lock.toArray⟩, .slice x.cert.a x.cert.l.length x.cert.c, .int .i64 x.signed.server, .int .i64 x.signed.kind, .int .i64 x.signed.view, .int .i64 x.signed.slot, .string ⟨x.signed.digest.toArray⟩, .string ⟨x.signed.sig.toArray⟩]) := hD (Vz.new v0 [.int .i64 x.server, .int .i64 x.view, .int .i64 x.length, .int .i64 x.lockView, .string ⟨x.lock.toArray⟩, .slice x.cert.a x.cert.l.length x.cert.c, .int .i64 x.signed.server, .int .i64 x.signed.kind, .int .i64 x.signed.view, .int .i64 x.signed.slot, .string ⟨x.signed.digest.toArray⟩, .string ⟨x.signed.sig.toArray⟩] 62)
        have HL := hD (bon HL.out hs)
        have HZ := hD (HZ.out.below hs)
        have HXx := hD (HXx.out.below hs)
        have HRr := hD (HRr.out.below hs)
        clear hs hsz
        generalize World.alloc v0 (.cells #[.int .i64 x.server, .int .i64 x.view, .int .i64 x.length, .int .i64 x.lockView, .string ⟨x.lock.toArray⟩, .slice x.cert.a x.cert.l.length x.cert.c, .int .i64 x.signed.server, .int .i64 x.signed.kind, .int .i64 x.signed.view, .int .i64 x.signed.slot, .string ⟨x.signed.digest.toArray⟩, .string ⟨x.signed.sig.toArray⟩] 62) = v1 at HL HZ HXx HRr HA ⊢
        generalize (World.heap v0).size = gx at HA ⊢
        have hS1 : World.cell? v1 ⟨w.heap.size + 1, 0, none⟩ = some (.int .i64 x.server) ∧ World.cell? v1 ⟨w.heap.size + 1, 1, none⟩ = some (.int .i64 x.view) ∧ World.cell? v1 ⟨w.heap.size + 1, 2, none⟩ = some (.int .i64 x.length) ∧ World.cell? v1 ⟨w.heap.size + 1, 3, none⟩ = some (.int .i64 x.lockView) ∧ World.cell? v1 ⟨w.heap.size + 1, 4, none⟩ = some (.string ⟨x.lock.toArray⟩) ∧ World.cell? v1 ⟨w.heap.size + 1, 5, none⟩ = some (.slice x.cert.a x.cert.l.length x.cert.c) ∧ World.cell? v1 ⟨w.heap.size + 1, 6, none⟩ = some (.int .i64 x.signed.server) ∧ World.cell? v1 ⟨w.heap.size + 1, 7, none⟩ = some (.int .i64 x.signed.kind) ∧ World.cell? v1 ⟨w.heap.size + 1, 8, none⟩ = some (.int .i64 x.signed.view) ∧ World.cell? v1 ⟨w.heap.size + 1, 9, none⟩ = some (.int .i64 x.signed.slot) ∧ World.cell? v1 ⟨w.heap.size + 1, 10, none⟩ = some (.string ⟨x.signed.digest.toArray⟩) ∧ World.cell? v1 ⟨w.heap.size + 1, 11, none⟩ = some (.string ⟨x.signed.sig.toArray⟩) := ⟨HXx.out.cells 0 _ rfl, HXx.out.cells 1 _ rfl, HXx.out.cells 2 _ rfl, HXx.out.cells 3 _ rfl, HXx.out.cells 4 _ rfl, HXx.out.cells 5 _ rfl, HXx.out.cells 6 _ rfl, HXx.out.cells 7 _ rfl, HXx.out.cells 8 _ rfl, HXx.out.cells 9 _ rfl, HXx.out.cells 10 _ rfl, HXx.out.cells 11 _ rfl⟩
        refine hK.out _ _ hS1 (fun hHeld => ?_)
        clear hK K
        try simp only [Act.put,qk1,qk2,qk3,qk4,qk5,qk6]
        refine wpAnyH_ready (rs := [0, 2]) (by kernel_rfl) (by simp) ?_
        refine AllReadyH.cons (o := _) rfl (fun K hK => ?_) (AllReadyH.cons (o := _) rfl (fun K hK => ?_) AllReadyH.nil)
        · go_simp
          have hs := below_new v1 (.cells #[] 62)
          have hsz : w.heap.size + 3 ≤ (World.heap v1).size := HRr.out.lt
          have hne : (World.heap v1).size ≠ gx := by have := HA.out.lt; omega
          have HO0 : Hid (World.ownsRow (World.alloc v1 (.cells #[] 62)) (w.heap.size + 3) 62 12 (.slice (some ⟨(World.heap v1).size, 0, none⟩) 0 0) 0 []) := hD (World.ownsRow_lit (base := w.heap.size + 3) (e := 62) (size := 12) v1 #[] 0 hsz (by simp) rfl)
          have HL := hD (bon HL.out hs)
          have HZ := hD (HZ.out.below hs)
          have HXx := hD (HXx.out.below hs)
          have HRr := hD (HRr.out.below hs)
          have HA := hD (HA.out.below hs)
          clear hs hsz
          generalize World.alloc v1 (.cells #[] 62) = v2 at HL HZ HXx HRr HO0 HA ⊢
          generalize (World.heap v1).size = g0 at HO0 hne ⊢
          have hS2 : World.cell? v2 ⟨w.heap.size + 1, 0, none⟩ = some (.int .i64 x.server) ∧ World.cell? v2 ⟨w.heap.size + 1, 1, none⟩ = some (.int .i64 x.view) ∧ World.cell? v2 ⟨w.heap.size + 1, 2, none⟩ = some (.int .i64 x.length) ∧ World.cell? v2 ⟨w.heap.size + 1, 3, none⟩ = some (.int .i64 x.lockView) ∧ World.cell? v2 ⟨w.heap.size + 1, 4, none⟩ = some (.string ⟨x.lock.toArray⟩) ∧ World.cell? v2 ⟨w.heap.size + 1, 5, none⟩ = some (.slice x.cert.a x.cert.l.length x.cert.c) ∧ World.cell? v2 ⟨w.heap.size + 1, 6, none⟩ = some (.int .i64 x.signed.server) ∧ World.cell? v2 ⟨w.heap.size + 1, 7, none⟩ = some (.int .i64 x.signed.kind) ∧ World.cell? v2 ⟨w.heap.size + 1, 8, none⟩ = some (.int .i64 x.signed.view) ∧ World.cell? v2 ⟨w.heap.size + 1, 9, none⟩ = some (.int .i64 x.signed.slot) ∧ World.cell? v2 ⟨w.heap.size + 1, 10, none⟩ = some (.string ⟨x.signed.digest.toArray⟩) ∧ World.cell? v2 ⟨w.heap.size + 1, 11, none⟩ = some (.string ⟨x.signed.sig.toArray⟩) := ⟨HXx.out.cells 0 _ rfl, HXx.out.cells 1 _ rfl, HXx.out.cells 2 _ rfl, HXx.out.cells 3 _ rfl, HXx.out.cells 4 _ rfl, HXx.out.cells 5 _ rfl, HXx.out.cells 6 _ rfl, HXx.out.cells 7 _ rfl, HXx.out.cells 8 _ rfl, HXx.out.cells 9 _ rfl, HXx.out.cells 10 _ rfl, HXx.out.cells 11 _ rfl⟩
          refine hK.out _ _ hS2 (fun hHeld => ?_)
          clear hK K
          try simp only [Act.put,qk1,qk2,qk3,qk4,qk5,qk6]
          refine tkr 2 rfl (fun K hK => ?_)
          have z0 := HZ.out.cells 0 _ rfl
          have lz := HZ.out.lt
          go_simp
          clear z0 lz
          have hq2 : World.cell? v2 ⟨w.heap.size + 1, 0, none⟩ = some (.int .i64 x.server) ∧ World.cell? v2 ⟨w.heap.size + 1, 1, none⟩ = some (.int .i64 x.view) ∧ World.cell? v2 ⟨w.heap.size + 1, 2, none⟩ = some (.int .i64 x.length) ∧ World.cell? v2 ⟨w.heap.size + 1, 3, none⟩ = some (.int .i64 x.lockView) ∧ World.cell? v2 ⟨w.heap.size + 1, 4, none⟩ = some (.string ⟨x.lock.toArray⟩) ∧ World.cell? v2 ⟨w.heap.size + 1, 5, none⟩ = some (.slice x.cert.a x.cert.l.length x.cert.c) ∧ World.cell? v2 ⟨w.heap.size + 1, 6, none⟩ = some (.int .i64 x.signed.server) ∧ World.cell? v2 ⟨w.heap.size + 1, 7, none⟩ = some (.int .i64 x.signed.kind) ∧ World.cell? v2 ⟨w.heap.size + 1, 8, none⟩ = some (.int .i64 x.signed.view) ∧ World.cell? v2 ⟨w.heap.size + 1, 9, none⟩ = some (.int .i64 x.signed.slot) ∧ World.cell? v2 ⟨w.heap.size + 1, 10, none⟩ = some (.string ⟨x.signed.digest.toArray⟩) ∧ World.cell? v2 ⟨w.heap.size + 1, 11, none⟩ = some (.string ⟨x.signed.sig.toArray⟩) := ⟨HXx.out.cells 0 _ rfl, HXx.out.cells 1 _ rfl, HXx.out.cells 2 _ rfl, HXx.out.cells 3 _ rfl, HXx.out.cells 4 _ rfl, HXx.out.cells 5 _ rfl, HXx.out.cells 6 _ rfl, HXx.out.cells 7 _ rfl, HXx.out.cells 8 _ rfl, HXx.out.cells 9 _ rfl, HXx.out.cells 10 _ rfl, HXx.out.cells 11 _ rfl⟩
          refine hK.out _ _ hq2 (fun hHeld => ?_)
          clear hK K hq2
          try simp only [Act.put,qk1,qk2,qk3,qk4,qk5,qk6]
          refine tkr 3 rfl (fun K hK => ?_)
          refine step_apg elemSt rfl _ _ (by rfl) (w.heap.size + 3) (by rfl) HO0.out (by rfl) (HSs.out _ HL.out) (stC_one ss) (by omega) (by omega) HRr.out.lt ?_
          intro A1 c1 v3 hown hgr
          have hl := fun g hg => (HO0.out.lt g hg).1
          have HO1 : Hid (World.ownsRow v3 (w.heap.size + 3) 62 12 (.slice A1 ss.length c1) ss.length (ss.flatMap stC)) := hD (by simpa using hown)
          have HL := hD (below_grown HL.out HL.out.size hgr (fun g hg => by have := hl g hg; omega))
          have HZ := hD (HZ.out.grown hgr (fun e => by have := hl _ e; omega))
          have HXx := hD (HXx.out.grown hgr (fun e => by have := hl _ e; omega))
          have HRr := hD (HRr.out.grown hgr (fun e => by have := hl _ e; omega))
          have HA := hD (HA.out.grown hgr (fun e => hne (by simpa [Value.ownBlock] using e)))
          clear hown hgr hl
          try simp only [Nat.zero_add]
          have hS3 : World.cell? v3 ⟨w.heap.size + 1, 0, none⟩ = some (.int .i64 x.server) ∧ World.cell? v3 ⟨w.heap.size + 1, 1, none⟩ = some (.int .i64 x.view) ∧ World.cell? v3 ⟨w.heap.size + 1, 2, none⟩ = some (.int .i64 x.length) ∧ World.cell? v3 ⟨w.heap.size + 1, 3, none⟩ = some (.int .i64 x.lockView) ∧ World.cell? v3 ⟨w.heap.size + 1, 4, none⟩ = some (.string ⟨x.lock.toArray⟩) ∧ World.cell? v3 ⟨w.heap.size + 1, 5, none⟩ = some (.slice x.cert.a x.cert.l.length x.cert.c) ∧ World.cell? v3 ⟨w.heap.size + 1, 6, none⟩ = some (.int .i64 x.signed.server) ∧ World.cell? v3 ⟨w.heap.size + 1, 7, none⟩ = some (.int .i64 x.signed.kind) ∧ World.cell? v3 ⟨w.heap.size + 1, 8, none⟩ = some (.int .i64 x.signed.view) ∧ World.cell? v3 ⟨w.heap.size + 1, 9, none⟩ = some (.int .i64 x.signed.slot) ∧ World.cell? v3 ⟨w.heap.size + 1, 10, none⟩ = some (.string ⟨x.signed.digest.toArray⟩) ∧ World.cell? v3 ⟨w.heap.size + 1, 11, none⟩ = some (.string ⟨x.signed.sig.toArray⟩) := ⟨HXx.out.cells 0 _ rfl, HXx.out.cells 1 _ rfl, HXx.out.cells 2 _ rfl, HXx.out.cells 3 _ rfl, HXx.out.cells 4 _ rfl, HXx.out.cells 5 _ rfl, HXx.out.cells 6 _ rfl, HXx.out.cells 7 _ rfl, HXx.out.cells 8 _ rfl, HXx.out.cells 9 _ rfl, HXx.out.cells 10 _ rfl, HXx.out.cells 11 _ rfl⟩
          refine hK.out _ _ hS3 (fun hHeld => ?_)
          clear hK K
          try simp only [Act.put,qk1,qk2,qk3,qk4,qk5,qk6]
          refine tkr 6 rfl (fun K hK => ?_)
          refine step_apg elemSt rfl _ _ (by rfl) (w.heap.size + 3) (by rfl) HO1.out (by rfl) (vz_rd HA.out 12 1 rfl) (by simp [Value.oneCell']) (by omega) (by omega) HRr.out.lt ?_
          intro A2 c2 v4 hown hgr
          have hl := fun g hg => (HO1.out.lt g hg).1
          have HO2 : Hid (World.ownsRow v4 (w.heap.size + 3) 62 12 (.slice A2 (ss.length + 1) c2) (ss.length + 1) ((ss ++ [x]).flatMap stC)) := hD (by rw [List.flatMap_append]; simpa [stC, Sl.v] using hown)
          have HL := hD (below_grown HL.out HL.out.size hgr (fun g hg => by have := hl g hg; omega))
          have HZ := hD (HZ.out.grown hgr (fun e => by have := hl _ e; omega))
          have HXx := hD (HXx.out.grown hgr (fun e => by have := hl _ e; omega))
          have HRr := hD (HRr.out.grown hgr (fun e => by have := hl _ e; omega))
          clear hown hgr hl
          have hS4 : World.cell? v4 ⟨w.heap.size + 1, 0, none⟩ = some (.int .i64 x.server) ∧ World.cell? v4 ⟨w.heap.size + 1, 1, none⟩ = some (.int .i64 x.view) ∧ World.cell? v4 ⟨w.heap.size + 1, 2, none⟩ = some (.int .i64 x.length) ∧ World.cell? v4 ⟨w.heap.size + 1, 3, none⟩ = some (.int .i64 x.lockView) ∧ World.cell? v4 ⟨w.heap.size + 1, 4, none⟩ = some (.string ⟨x.lock.toArray⟩) ∧ World.cell? v4 ⟨w.heap.size + 1, 5, none⟩ = some (.slice x.cert.a x.cert.l.length x.cert.c) ∧ World.cell? v4 ⟨w.heap.size + 1, 6, none⟩ = some (.int .i64 x.signed.server) ∧ World.cell? v4 ⟨w.heap.size + 1, 7, none⟩ = some (.int .i64 x.signed.kind) ∧ World.cell? v4 ⟨w.heap.size + 1, 8, none⟩ = some (.int .i64 x.signed.view) ∧ World.cell? v4 ⟨w.heap.size + 1, 9, none⟩ = some (.int .i64 x.signed.slot) ∧ World.cell? v4 ⟨w.heap.size + 1, 10, none⟩ = some (.string ⟨x.signed.digest.toArray⟩) ∧ World.cell? v4 ⟨w.heap.size + 1, 11, none⟩ = some (.string ⟨x.signed.sig.toArray⟩) := ⟨HXx.out.cells 0 _ rfl, HXx.out.cells 1 _ rfl, HXx.out.cells 2 _ rfl, HXx.out.cells 3 _ rfl, HXx.out.cells 4 _ rfl, HXx.out.cells 5 _ rfl, HXx.out.cells 6 _ rfl, HXx.out.cells 7 _ rfl, HXx.out.cells 8 _ rfl, HXx.out.cells 9 _ rfl, HXx.out.cells 10 _ rfl, HXx.out.cells 11 _ rfl⟩
          refine hK.out _ _ hS4 (fun hHeld => ?_)
          clear hK K
          try simp only [Act.put,qk1,qk2,qk3,qk4,qk5,qk6]
          refine takes [7] ?_
          refine tkr 8 rfl (fun K hK => ?_)
          have z0 := HZ.out.cells 0 _ rfl
          have f0 := HZ.out.free 0 (by simp)
          have lz := HZ.out.lt
          go_simp
          have hg := grown_set v4 ⟨w.heap.size, 0, none⟩ (.slice A2 (ss.length + 1) c2)
          have HL := hD (HL.out.setCell (p := ⟨w.heap.size, 0, none⟩) (Nat.le_refl _) (.slice A2 (ss.length + 1) c2))
          have HXx := hD (HXx.out.grown hg (by simp))
          have HRr := hD (HRr.out.grown hg (by simp))
          have HO2 := hD (own_far HO2.out ⟨w.heap.size, 0, none⟩ (.slice A2 (ss.length + 1) c2) (by show w.heap.size < _; omega))
          have HZ := hD ((HZ.out.set 0 (.slice A2 (ss.length + 1) c2)).eq (cs' := [.slice A2 (ss.length + 1) c2, .slice Bv nv dv]) rfl)
          clear z0 f0 lz hg
          generalize World.setCell v4 ⟨w.heap.size, 0, none⟩ (.slice A2 (ss.length + 1) c2) = v5 at HL HXx HRr HO2 HZ ⊢
          have hS5 : World.cell? v5 ⟨w.heap.size + 1, 0, none⟩ = some (.int .i64 x.server) ∧ World.cell? v5 ⟨w.heap.size + 1, 1, none⟩ = some (.int .i64 x.view) ∧ World.cell? v5 ⟨w.heap.size + 1, 2, none⟩ = some (.int .i64 x.length) ∧ World.cell? v5 ⟨w.heap.size + 1, 3, none⟩ = some (.int .i64 x.lockView) ∧ World.cell? v5 ⟨w.heap.size + 1, 4, none⟩ = some (.string ⟨x.lock.toArray⟩) ∧ World.cell? v5 ⟨w.heap.size + 1, 5, none⟩ = some (.slice x.cert.a x.cert.l.length x.cert.c) ∧ World.cell? v5 ⟨w.heap.size + 1, 6, none⟩ = some (.int .i64 x.signed.server) ∧ World.cell? v5 ⟨w.heap.size + 1, 7, none⟩ = some (.int .i64 x.signed.kind) ∧ World.cell? v5 ⟨w.heap.size + 1, 8, none⟩ = some (.int .i64 x.signed.view) ∧ World.cell? v5 ⟨w.heap.size + 1, 9, none⟩ = some (.int .i64 x.signed.slot) ∧ World.cell? v5 ⟨w.heap.size + 1, 10, none⟩ = some (.string ⟨x.signed.digest.toArray⟩) ∧ World.cell? v5 ⟨w.heap.size + 1, 11, none⟩ = some (.string ⟨x.signed.sig.toArray⟩) := ⟨HXx.out.cells 0 _ rfl, HXx.out.cells 1 _ rfl, HXx.out.cells 2 _ rfl, HXx.out.cells 3 _ rfl, HXx.out.cells 4 _ rfl, HXx.out.cells 5 _ rfl, HXx.out.cells 6 _ rfl, HXx.out.cells 7 _ rfl, HXx.out.cells 8 _ rfl, HXx.out.cells 9 _ rfl, HXx.out.cells 10 _ rfl, HXx.out.cells 11 _ rfl⟩
          refine hK.out _ _ hS5 (fun hHeld => ?_)
          clear hK K
          try simp only [Act.put,qk1,qk2,qk3,qk4,qk5,qk6]
          refine wpAnyH_done (by kernel_rfl) ?_ _
          refine NoPanic.normal ?_
          go_wp2_with fail
          go_meet
          case rel => exact ⟨A2, c2, HL.out, HZ.out, HRr.out, HO2.out⟩
        · have z0 := HZ.out.cells 0 _ rfl
          have lz := HZ.out.lt
          go_simp
          clear z0 lz
          have hq1 : World.cell? v1 ⟨w.heap.size + 1, 0, none⟩ = some (.int .i64 x.server) ∧ World.cell? v1 ⟨w.heap.size + 1, 1, none⟩ = some (.int .i64 x.view) ∧ World.cell? v1 ⟨w.heap.size + 1, 2, none⟩ = some (.int .i64 x.length) ∧ World.cell? v1 ⟨w.heap.size + 1, 3, none⟩ = some (.int .i64 x.lockView) ∧ World.cell? v1 ⟨w.heap.size + 1, 4, none⟩ = some (.string ⟨x.lock.toArray⟩) ∧ World.cell? v1 ⟨w.heap.size + 1, 5, none⟩ = some (.slice x.cert.a x.cert.l.length x.cert.c) ∧ World.cell? v1 ⟨w.heap.size + 1, 6, none⟩ = some (.int .i64 x.signed.server) ∧ World.cell? v1 ⟨w.heap.size + 1, 7, none⟩ = some (.int .i64 x.signed.kind) ∧ World.cell? v1 ⟨w.heap.size + 1, 8, none⟩ = some (.int .i64 x.signed.view) ∧ World.cell? v1 ⟨w.heap.size + 1, 9, none⟩ = some (.int .i64 x.signed.slot) ∧ World.cell? v1 ⟨w.heap.size + 1, 10, none⟩ = some (.string ⟨x.signed.digest.toArray⟩) ∧ World.cell? v1 ⟨w.heap.size + 1, 11, none⟩ = some (.string ⟨x.signed.sig.toArray⟩) := ⟨HXx.out.cells 0 _ rfl, HXx.out.cells 1 _ rfl, HXx.out.cells 2 _ rfl, HXx.out.cells 3 _ rfl, HXx.out.cells 4 _ rfl, HXx.out.cells 5 _ rfl, HXx.out.cells 6 _ rfl, HXx.out.cells 7 _ rfl, HXx.out.cells 8 _ rfl, HXx.out.cells 9 _ rfl, HXx.out.cells 10 _ rfl, HXx.out.cells 11 _ rfl⟩
          refine hK.out _ _ hq1 (fun hHeld => ?_)
          clear hK K hq1
          try simp only [Act.put,qk1,qk2,qk3,qk4,qk5,qk6]
          refine tkr 0 rfl (fun K hK => ?_)
          go_simp
          have hs := below_new v1 (.cells #[] 62)
          have hsz : w.heap.size + 3 ≤ (World.heap v1).size := HRr.out.lt
          have hne : (World.heap v1).size ≠ gx := by have := HA.out.lt; omega
          have HO0 : Hid (World.ownsRow (World.alloc v1 (.cells #[] 62)) (w.heap.size + 3) 62 12 (.slice (some ⟨(World.heap v1).size, 0, none⟩) 0 0) 0 []) := hD (World.ownsRow_lit (base := w.heap.size + 3) (e := 62) (size := 12) v1 #[] 0 hsz (by simp) rfl)
          have HL := hD (bon HL.out hs)
          have HZ := hD (HZ.out.below hs)
          have HXx := hD (HXx.out.below hs)
          have HRr := hD (HRr.out.below hs)
          have HA := hD (HA.out.below hs)
          clear hs hsz
          generalize World.alloc v1 (.cells #[] 62) = v2 at HL HZ HXx HRr HO0 HA ⊢
          generalize (World.heap v1).size = g0 at HO0 hne ⊢
          have hS2 : World.cell? v2 ⟨w.heap.size + 1, 0, none⟩ = some (.int .i64 x.server) ∧ World.cell? v2 ⟨w.heap.size + 1, 1, none⟩ = some (.int .i64 x.view) ∧ World.cell? v2 ⟨w.heap.size + 1, 2, none⟩ = some (.int .i64 x.length) ∧ World.cell? v2 ⟨w.heap.size + 1, 3, none⟩ = some (.int .i64 x.lockView) ∧ World.cell? v2 ⟨w.heap.size + 1, 4, none⟩ = some (.string ⟨x.lock.toArray⟩) ∧ World.cell? v2 ⟨w.heap.size + 1, 5, none⟩ = some (.slice x.cert.a x.cert.l.length x.cert.c) ∧ World.cell? v2 ⟨w.heap.size + 1, 6, none⟩ = some (.int .i64 x.signed.server) ∧ World.cell? v2 ⟨w.heap.size + 1, 7, none⟩ = some (.int .i64 x.signed.kind) ∧ World.cell? v2 ⟨w.heap.size + 1, 8, none⟩ = some (.int .i64 x.signed.view) ∧ World.cell? v2 ⟨w.heap.size + 1, 9, none⟩ = some (.int .i64 x.signed.slot) ∧ World.cell? v2 ⟨w.heap.size + 1, 10, none⟩ = some (.string ⟨x.signed.digest.toArray⟩) ∧ World.cell? v2 ⟨w.heap.size + 1, 11, none⟩ = some (.string ⟨x.signed.sig.toArray⟩) := ⟨HXx.out.cells 0 _ rfl, HXx.out.cells 1 _ rfl, HXx.out.cells 2 _ rfl, HXx.out.cells 3 _ rfl, HXx.out.cells 4 _ rfl, HXx.out.cells 5 _ rfl, HXx.out.cells 6 _ rfl, HXx.out.cells 7 _ rfl, HXx.out.cells 8 _ rfl, HXx.out.cells 9 _ rfl, HXx.out.cells 10 _ rfl, HXx.out.cells 11 _ rfl⟩
          refine hK.out _ _ hS2 (fun hHeld => ?_)
          clear hK K
          try simp only [Act.put,qk1,qk2,qk3,qk4,qk5,qk6]
          refine tkr 3 rfl (fun K hK => ?_)
          refine step_apg elemSt rfl _ _ (by rfl) (w.heap.size + 3) (by rfl) HO0.out (by rfl) (HSs.out _ HL.out) (stC_one ss) (by omega) (by omega) HRr.out.lt ?_
          intro A1 c1 v3 hown hgr
          have hl := fun g hg => (HO0.out.lt g hg).1
          have HO1 : Hid (World.ownsRow v3 (w.heap.size + 3) 62 12 (.slice A1 ss.length c1) ss.length (ss.flatMap stC)) := hD (by simpa using hown)
          have HL := hD (below_grown HL.out HL.out.size hgr (fun g hg => by have := hl g hg; omega))
          have HZ := hD (HZ.out.grown hgr (fun e => by have := hl _ e; omega))
          have HXx := hD (HXx.out.grown hgr (fun e => by have := hl _ e; omega))
          have HRr := hD (HRr.out.grown hgr (fun e => by have := hl _ e; omega))
          have HA := hD (HA.out.grown hgr (fun e => hne (by simpa [Value.ownBlock] using e)))
          clear hown hgr hl
          try simp only [Nat.zero_add]
          have hS3 : World.cell? v3 ⟨w.heap.size + 1, 0, none⟩ = some (.int .i64 x.server) ∧ World.cell? v3 ⟨w.heap.size + 1, 1, none⟩ = some (.int .i64 x.view) ∧ World.cell? v3 ⟨w.heap.size + 1, 2, none⟩ = some (.int .i64 x.length) ∧ World.cell? v3 ⟨w.heap.size + 1, 3, none⟩ = some (.int .i64 x.lockView) ∧ World.cell? v3 ⟨w.heap.size + 1, 4, none⟩ = some (.string ⟨x.lock.toArray⟩) ∧ World.cell? v3 ⟨w.heap.size + 1, 5, none⟩ = some (.slice x.cert.a x.cert.l.length x.cert.c) ∧ World.cell? v3 ⟨w.heap.size + 1, 6, none⟩ = some (.int .i64 x.signed.server) ∧ World.cell? v3 ⟨w.heap.size + 1, 7, none⟩ = some (.int .i64 x.signed.kind) ∧ World.cell? v3 ⟨w.heap.size + 1, 8, none⟩ = some (.int .i64 x.signed.view) ∧ World.cell? v3 ⟨w.heap.size + 1, 9, none⟩ = some (.int .i64 x.signed.slot) ∧ World.cell? v3 ⟨w.heap.size + 1, 10, none⟩ = some (.string ⟨x.signed.digest.toArray⟩) ∧ World.cell? v3 ⟨w.heap.size + 1, 11, none⟩ = some (.string ⟨x.signed.sig.toArray⟩) := ⟨HXx.out.cells 0 _ rfl, HXx.out.cells 1 _ rfl, HXx.out.cells 2 _ rfl, HXx.out.cells 3 _ rfl, HXx.out.cells 4 _ rfl, HXx.out.cells 5 _ rfl, HXx.out.cells 6 _ rfl, HXx.out.cells 7 _ rfl, HXx.out.cells 8 _ rfl, HXx.out.cells 9 _ rfl, HXx.out.cells 10 _ rfl, HXx.out.cells 11 _ rfl⟩
          refine hK.out _ _ hS3 (fun hHeld => ?_)
          clear hK K
          try simp only [Act.put,qk1,qk2,qk3,qk4,qk5,qk6]
          refine tkr 6 rfl (fun K hK => ?_)
          refine step_apg elemSt rfl _ _ (by rfl) (w.heap.size + 3) (by rfl) HO1.out (by rfl) (vz_rd HA.out 12 1 rfl) (by simp [Value.oneCell']) (by omega) (by omega) HRr.out.lt ?_
          intro A2 c2 v4 hown hgr
          have hl := fun g hg => (HO1.out.lt g hg).1
          have HO2 : Hid (World.ownsRow v4 (w.heap.size + 3) 62 12 (.slice A2 (ss.length + 1) c2) (ss.length + 1) ((ss ++ [x]).flatMap stC)) := hD (by rw [List.flatMap_append]; simpa [stC, Sl.v] using hown)
          have HL := hD (below_grown HL.out HL.out.size hgr (fun g hg => by have := hl g hg; omega))
          have HZ := hD (HZ.out.grown hgr (fun e => by have := hl _ e; omega))
          have HXx := hD (HXx.out.grown hgr (fun e => by have := hl _ e; omega))
          have HRr := hD (HRr.out.grown hgr (fun e => by have := hl _ e; omega))
          clear hown hgr hl
          have hS4 : World.cell? v4 ⟨w.heap.size + 1, 0, none⟩ = some (.int .i64 x.server) ∧ World.cell? v4 ⟨w.heap.size + 1, 1, none⟩ = some (.int .i64 x.view) ∧ World.cell? v4 ⟨w.heap.size + 1, 2, none⟩ = some (.int .i64 x.length) ∧ World.cell? v4 ⟨w.heap.size + 1, 3, none⟩ = some (.int .i64 x.lockView) ∧ World.cell? v4 ⟨w.heap.size + 1, 4, none⟩ = some (.string ⟨x.lock.toArray⟩) ∧ World.cell? v4 ⟨w.heap.size + 1, 5, none⟩ = some (.slice x.cert.a x.cert.l.length x.cert.c) ∧ World.cell? v4 ⟨w.heap.size + 1, 6, none⟩ = some (.int .i64 x.signed.server) ∧ World.cell? v4 ⟨w.heap.size + 1, 7, none⟩ = some (.int .i64 x.signed.kind) ∧ World.cell? v4 ⟨w.heap.size + 1, 8, none⟩ = some (.int .i64 x.signed.view) ∧ World.cell? v4 ⟨w.heap.size + 1, 9, none⟩ = some (.int .i64 x.signed.slot) ∧ World.cell? v4 ⟨w.heap.size + 1, 10, none⟩ = some (.string ⟨x.signed.digest.toArray⟩) ∧ World.cell? v4 ⟨w.heap.size + 1, 11, none⟩ = some (.string ⟨x.signed.sig.toArray⟩) := ⟨HXx.out.cells 0 _ rfl, HXx.out.cells 1 _ rfl, HXx.out.cells 2 _ rfl, HXx.out.cells 3 _ rfl, HXx.out.cells 4 _ rfl, HXx.out.cells 5 _ rfl, HXx.out.cells 6 _ rfl, HXx.out.cells 7 _ rfl, HXx.out.cells 8 _ rfl, HXx.out.cells 9 _ rfl, HXx.out.cells 10 _ rfl, HXx.out.cells 11 _ rfl⟩
          refine hK.out _ _ hS4 (fun hHeld => ?_)
          clear hK K
          try simp only [Act.put,qk1,qk2,qk3,qk4,qk5,qk6]
          refine takes [7] ?_
          refine tkr 8 rfl (fun K hK => ?_)
          have z0 := HZ.out.cells 0 _ rfl
          have f0 := HZ.out.free 0 (by simp)
          have lz := HZ.out.lt
          go_simp
          have hg := grown_set v4 ⟨w.heap.size, 0, none⟩ (.slice A2 (ss.length + 1) c2)
          have HL := hD (HL.out.setCell (p := ⟨w.heap.size, 0, none⟩) (Nat.le_refl _) (.slice A2 (ss.length + 1) c2))
          have HXx := hD (HXx.out.grown hg (by simp))
          have HRr := hD (HRr.out.grown hg (by simp))
          have HO2 := hD (own_far HO2.out ⟨w.heap.size, 0, none⟩ (.slice A2 (ss.length + 1) c2) (by show w.heap.size < _; omega))
          have HZ := hD ((HZ.out.set 0 (.slice A2 (ss.length + 1) c2)).eq (cs' := [.slice A2 (ss.length + 1) c2, .slice Bv nv dv]) rfl)
          clear z0 f0 lz hg
          generalize World.setCell v4 ⟨w.heap.size, 0, none⟩ (.slice A2 (ss.length + 1) c2) = v5 at HL HXx HRr HO2 HZ ⊢
          have hS5 : World.cell? v5 ⟨w.heap.size + 1, 0, none⟩ = some (.int .i64 x.server) ∧ World.cell? v5 ⟨w.heap.size + 1, 1, none⟩ = some (.int .i64 x.view) ∧ World.cell? v5 ⟨w.heap.size + 1, 2, none⟩ = some (.int .i64 x.length) ∧ World.cell? v5 ⟨w.heap.size + 1, 3, none⟩ = some (.int .i64 x.lockView) ∧ World.cell? v5 ⟨w.heap.size + 1, 4, none⟩ = some (.string ⟨x.lock.toArray⟩) ∧ World.cell? v5 ⟨w.heap.size + 1, 5, none⟩ = some (.slice x.cert.a x.cert.l.length x.cert.c) ∧ World.cell? v5 ⟨w.heap.size + 1, 6, none⟩ = some (.int .i64 x.signed.server) ∧ World.cell? v5 ⟨w.heap.size + 1, 7, none⟩ = some (.int .i64 x.signed.kind) ∧ World.cell? v5 ⟨w.heap.size + 1, 8, none⟩ = some (.int .i64 x.signed.view) ∧ World.cell? v5 ⟨w.heap.size + 1, 9, none⟩ = some (.int .i64 x.signed.slot) ∧ World.cell? v5 ⟨w.heap.size + 1, 10, none⟩ = some (.string ⟨x.signed.digest.toArray⟩) ∧ World.cell? v5 ⟨w.heap.size + 1, 11, none⟩ = some (.string ⟨x.signed.sig.toArray⟩) := ⟨HXx.out.cells 0 _ rfl, HXx.out.cells 1 _ rfl, HXx.out.cells 2 _ rfl, HXx.out.cells 3 _ rfl, HXx.out.cells 4 _ rfl, HXx.out.cells 5 _ rfl, HXx.out.cells 6 _ rfl, HXx.out.cells 7 _ rfl, HXx.out.cells 8 _ rfl, HXx.out.cells 9 _ rfl, HXx.out.cells 10 _ rfl, HXx.out.cells 11 _ rfl⟩
          refine hK.out _ _ hS5 (fun hHeld => ?_)
          clear hK K
          try simp only [Act.put,qk1,qk2,qk3,qk4,qk5,qk6]
          refine wpAnyH_done (by kernel_rfl) ?_ _
          refine NoPanic.normal ?_
          go_wp2_with fail
          go_meet
          case rel => exact ⟨A2, c2, HL.out, HZ.out, HRr.out, HO2.out⟩
 · have h61 : ¬ (ss.length : Int) < 60 := by omega
   have h62 : (60 : Int) ≤ (ss.length : Int) := by omega
   have HV2 : Hid (seeSt ss x = ss) := hD (by unfold seeSt; rw [decide_eq_false h60]; rfl)
   clear h60
   have z0 := HZ.out.cells 0 _ rfl
   have z1 := HZ.out.cells 1 _ rfl
   have lz := HZ.out.lt
   have y0 := HRr.out.cells 0 _ rfl
   have y1 := HRr.out.cells 1 _ rfl
   have e0 := HRr.out.free 0 (by simp)
   have e1 := HRr.out.free 1 (by simp)
   have ly := HRr.out.lt
   have hge : w.heap.size ≤ w.heap.size + 2 := by omega
   have HLw := hD ((HL.out.setCell (p := ⟨w.heap.size + 2, 0, none⟩) hge (.slice As ss.length cs)).setCell (p := ⟨w.heap.size + 2, 1, none⟩) hge (.slice Bv nv dv))
   go_wp2_with fail
   refine bodyPost_ret (v := .agg #[.slice As ss.length cs, .slice Bv nv dv]) (by simp [results, Tryz.results47, go_sem, y0, y1]) rfl ?_
   rw [HV2.out]
   exact ⟨As, cs, rfl, HSs.out _ HLw.out, HLw.out, fun g _ h => h.below HLw.out⟩
end Go.Proofs.YtikpcebhcnjkhaaGreatDoor
