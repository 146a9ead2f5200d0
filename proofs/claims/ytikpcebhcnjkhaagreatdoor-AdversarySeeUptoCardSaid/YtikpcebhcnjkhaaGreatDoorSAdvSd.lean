/- adversary.See. -/
import Derived.Deep.Cut
import Derived.Deep.CutRange
import Derived.Test.YtikpcebhcnjkhaaGreatDoorSPl
import Derived.Test.YtikpcebhcnjkhaaGreatDoorSAdvSc
import Derived.Test.YtikpcebhcnjkhaaGreatDoorSA8
namespace Go.Proofs.YtikpcebhcnjkhaaGreatDoor
open Go.RowKit Q40
theorem see_bd (ss : List St) (vs : List (List UInt8)) (l : List St) (w : World) (h1 : ss.length ≤ 1048576) (h2 : vs.length ≤ 1048576) (h3 : ∀ y ∈ ss, y.ok w ∧ y.sz ≤ 16777216) (h4 : ∀ y ∈ l, y.ok w ∧ y.sz ≤ 16777216) : ∀ k, ((l.take k).foldl seeF (ss, vs)).1.length ≤ 1048576 ∧ ((l.take k).foldl seeF (ss, vs)).2.length ≤ 1048576 ∧ ∀ y ∈ ((l.take k).foldl seeF (ss, vs)).1, y.ok w ∧ y.sz ≤ 16777216 := by
 intro k
 induction k with
 | zero => exact ⟨h1, h2, h3⟩
 | succ k ih =>
  by_cases hk : k < l.length
  · rw [take_one seeF (ss, vs) l k hk]
    refine ⟨seeSt_len _ _ ih.1, learnV_len _ _ ih.2.1, fun y hy => ?_⟩
    rcases seeSt_mem hy with h | h
    · exact ih.2.2 y h
    · rw [h]; exact h4 _ (List.getElem_mem hk)
  · rw [List.take_of_length_le (by omega)]
    rw [List.take_of_length_le (by omega)] at ih
    exact ih
theorem seeV_bd (vs : List (List UInt8)) (l : List De) (h : vs.length ≤ 1048576) : ∀ k, ((l.take k).foldl seeV vs).length ≤ 1048576 := by
 intro k
 induction k with
 | zero => exact h
 | succ k ih =>
  by_cases hk : k < l.length
  · rw [take_one seeV vs l k hk]
    exact learnV_len _ _ ih
  · rw [List.take_of_length_le (by omega)]
    rw [List.take_of_length_le (by omega)] at ih
    exact ih
theorem de_le1 {m : Ms} (hz : m.sz ≤ 1048576) {y : De} (hy : y ∈ m.entries.l) : y.value.length ≤ 1048576 := by
 have h1 := sum_get De.sz m.entries.l y hy
 unfold Ms.sz at hz
 have h2 : y.value.length ≤ y.sz := by unfold De.sz; omega
 omega
theorem deC_len (x : De) : (deC x).length = 3 := rfl
theorem cert_le {x : St} (h : x.sz ≤ 1048576) : x.cert.l.length ≤ 16777216 := by
 have h2 := sum_ge Sg.sz x.cert.l 7 Sg.sz_ge
 unfold St.sz at h
 omega
theorem cert_le2 {x : St} (h : x.sz ≤ 16777216) : x.cert.l.length ≤ 16777216 := by
 have h2 := sum_ge Sg.sz x.cert.l 7 Sg.sz_ge
 unfold St.sz at h
 omega
def RetSeen (p : List St × List (List UInt8)) (w : World) (e : Ending) (w' : World) : Prop := ∃ A c B d, e = .returned (.agg #[.slice A p.1.length c, .slice B p.2.length d]) ∧ Rd w' 12 A p.1.length (p.1.flatMap stC) ∧ Rd w' 1 B p.2.length (strC p.2) ∧ Below w.heap.size w w'
def OwnStrs (l : List (List UInt8)) (w : World) (e : Ending) (w' : World) : Prop := ∃ A c, e = .returned (.slice A l.length c) ∧ w'.ownsRow w.heap.size 9 1 (.slice A l.length c) l.length (strC l) ∧ Below w.heap.size w w'
theorem cloneStrs (A : Option Addr) (c : Nat) (l : List (List UInt8)) (w : World) (h : Rd w 1 A l.length (strC l)) (hn : l.length ≤ 1048576) : Calls Tryz.prog 18 #[.slice A l.length c] w (OwnStrs l w) := by
 refine (cloneSv_any A c l w (by rw [strV_flat]; exact h) hn).mono ?_
 rintro e w' ⟨A', c', rfl, ho, hb⟩
 rw [strV_flat] at ho
 exact ⟨A', c', rfl, ho, hb⟩
set_option maxRecDepth 100000 in
set_option maxHeartbeats 16000000 in
theorem see_any (As Av : Option Addr) (cs cv : Nat) (ss : List St) (vs : List (List UInt8)) (m : Ms) (w : World) (he : Env w) (hss : Rd w 12 As ss.length (ss.flatMap stC)) (hvs : Rd w 1 Av vs.length (strC vs)) (hso : ∀ y ∈ ss, y.ok w ∧ y.sz ≤ 16777216) (hm : m.ok w) (hz : m.sz ≤ 1048576) (hl1 : ss.length ≤ 1048576) (hl2 : vs.length ≤ 1048576) :
    Calls Tryz.prog 20 #[.agg #[.slice As ss.length cs, .slice Av vs.length cv], .agg (msC m).toArray] w (RetSeen (seeAll ss vs m) w) := by
 have HE := hD he
 have HC17 : Hid (∀ W, Below w.heap.size w W → Calls Tryz.prog 17 #[.slice As ss.length cs] W (OwnSts ss W)) := hD (fun W hb => cloneSt_any As cs ss W (hss.below hb) hl1)
 have HC18 : Hid (∀ W, Below w.heap.size w W → Calls Tryz.prog 18 #[.slice Av vs.length cv] W (OwnStrs vs W)) := hD (fun W hb => cloneStrs Av cv vs W (hvs.below hb) hl2)
 have HL0 : Hid (Below w.heap.size w (((w.alloc (.cells #[.slice As ss.length cs, .slice Av vs.length cv] 59)).alloc (.cells (msC m).toArray 50)).alloc (.cells #[.slice none 0 0, .slice none 0 0] 59))) := hD (bon (bon (below_new w _) (below_new _ _)) (below_new _ _))
 have HZ0 : Hid (Vz (((w.alloc (.cells #[.slice As ss.length cs, .slice Av vs.length cv] 59)).alloc (.cells (msC m).toArray 50)).alloc (.cells #[.slice none 0 0, .slice none 0 0] 59)) w.heap.size [.slice As ss.length cs, .slice Av vs.length cv]) := hD (((Vz.new w [.slice As ss.length cs, .slice Av vs.length cv] 59).below (below_new _ _)).below (below_new _ _))
 have HM0 : Hid (Vz (((w.alloc (.cells #[.slice As ss.length cs, .slice Av vs.length cv] 59)).alloc (.cells (msC m).toArray 50)).alloc (.cells #[.slice none 0 0, .slice none 0 0] 59)) (w.heap.size + 1) (msC m)) := hD (by
  have h9 := (Vz.new (w.alloc (.cells #[.slice As ss.length cs, .slice Av vs.length cv] 59)) (msC m) 50).below (below_new _ (.cells #[.slice none 0 0, .slice none 0 0] 59))
  rw [World.size_alloc] at h9
  exact h9)
 have HR0 : Hid (Vz (((w.alloc (.cells #[.slice As ss.length cs, .slice Av vs.length cv] 59)).alloc (.cells (msC m).toArray 50)).alloc (.cells #[.slice none 0 0, .slice none 0 0] 59)) (w.heap.size + 2) [.slice none 0 0, .slice none 0 0]) := hD (by
  have h9 := Vz.new ((w.alloc (.cells #[.slice As ss.length cs, .slice Av vs.length cv] 59)).alloc (.cells (msC m).toArray 50)) [.slice none 0 0, .slice none 0 0] 59
  rw [World.size_alloc, World.size_alloc] at h9
  exact h9)
 obtain ⟨w3, hw3⟩ : ∃ w3, w3 = (((w.alloc (.cells #[.slice As ss.length cs, .slice Av vs.length cv] 59)).alloc (.cells (msC m).toArray 50)).alloc (.cells #[.slice none 0 0, .slice none 0 0] 59)) := ⟨_, rfl⟩
 rw [← hw3] at HL0 HZ0 HM0 HR0
 have HW3 : Hid ((((w.alloc (.cells #[.slice As ss.length cs, .slice Av vs.length cv] 59)).alloc (.cells (msC m).toArray 50)).alloc (.cells #[.slice none 0 0, .slice none 0 0] 59)) = w3) := hD hw3.symm
 have HRow : Hid (Rd w 12 m.statuses.a m.statuses.l.length (m.statuses.l.flatMap stC)) := hD hm.2.2.1.1
 have HEnt : Hid (Rd w 3 m.entries.a m.entries.l.length (m.entries.l.flatMap deC)) := hD hm.2.2.2.1.1
 have HStO : Hid (∀ y ∈ m.statuses.l, y.ok w ∧ y.sz ≤ 1048576) := hD (fun y hy => ⟨hm.2.2.1.2 y hy, Nat.le_trans (sum_get St.sz m.statuses.l y hy) (by unfold Ms.sz at hz; omega)⟩)
 have HDeO : Hid (∀ y ∈ m.entries.l, y.value.length ≤ 1048576) := hD (fun y hy => de_le1 hz hy)
 have HSso := hD hso
 have HVal : Hid (m.value.length ≤ 1048576) := hD (by unfold Ms.sz at hz; omega)
 have hn1 : m.statuses.l.length ≤ 1048576 := by have h1 := sum_ge St.sz m.statuses.l 14 St.sz_ge; unfold Ms.sz at hz; omega
 have hn2 : m.entries.l.length ≤ 1048576 := by have h1 := sum_ge De.sz m.entries.l 4 De.sz_ge; unfold Ms.sz at hz; omega
 clear hw3 he hss hvs hso hm hz
 go_enter Tryz.func20, Tryz.ntmps20
 go_upto_region 1 with fail
 refine world_eqA HW3.out ?_
 clear HW3
 go_cut [] from 10 to 17 (fun wx => Se w m ss vs wx)
 case rest =>
  rename World => w5
  have HSe := hD hcut
  clear hcut HL0 HZ0 HM0 HR0
  have m13 : w5.cell? ⟨w.heap.size + 1, 13, none⟩ = some (.slice m.statuses.a m.statuses.l.length m.statuses.c) := HSe.out.msg.cells 13 _ rfl
  have lm := HSe.out.msg.lt
  go_wp2_with fail
  clear m13 lm
  go_loopw [22] (fun i wr => ∃ k : Nat, i = .int .i64 k ∧ k ≤ m.statuses.l.length ∧ Se w m ((m.statuses.l.take k).foldl seeF (ss, vs)).1 ((m.statuses.l.take k).foldl seeF (ss, vs)).2 wr) (fun i _ => m.statuses.l.length - (intOf i).toNat)
  case atStart => exact ⟨0, rfl, by omega, HSe.out⟩
  case round =>
   obtain ⟨k, rfl, hk, hse⟩ := hrel
   have HSe := hD hse
   clear hse
   by_cases hlt : k < m.statuses.l.length
   · have i0' : (0 : Int) ≤ (k : Int) := by omega
     have i1 : (k : Int) < (m.statuses.l.length : Int) := by omega
     obtain ⟨b, off, hb0, hg, hcc⟩ := Rd.at HRow.out stC_len (by decide) hlt
     have HTk := hD (take_one seeF (ss, vs) m.statuses.l k hlt)
     have hxo := HStO.out _ (List.getElem_mem hlt)
     obtain ⟨x, hx⟩ : ∃ x, x = m.statuses.l[k] := ⟨_, rfl⟩
     have hc9 := hcc wr HSe.out.low
     rw [← hx] at hc9 HTk hxo
     obtain ⟨P, hP⟩ : ∃ P, P = (m.statuses.l.take k).foldl seeF (ss, vs) := ⟨_, rfl⟩
     have HBd : Hid (P.1.length ≤ 1048576 ∧ P.2.length ≤ 1048576 ∧ ∀ y ∈ P.1, y.ok w ∧ y.sz ≤ 16777216) := hD (by rw [hP]; exact see_bd ss vs m.statuses.l w hl1 hl2 HSso.out (fun y hy => ⟨(HStO.out y hy).1, Nat.le_trans (HStO.out y hy).2 (by decide)⟩) k)
     rw [← hP] at HSe HTk
     obtain ⟨ps, pv⟩ := P
     simp only at HSe HBd
     have HXo := hD hxo
     have HLs := hD HBd.out.1
     have HLv := hD HBd.out.2.1
     have HXl : Hid (x.lock.length ≤ 1048576) := hD (by have := hxo.2; unfold St.sz at this; omega)
     obtain ⟨s16, s26, A6, c6, B6, d6, hvz6, ho6, hp6⟩ := HSe.out.st
     have HZ := hD hvz6
     have HOs := hD ho6
     have HOv := hD hp6
     have a6 := hvz6.cells 0 _ rfl
     have lz6 := hvz6.lt
     clear hvz6 ho6 hp6
     have HOlt : Hid (∀ g, (Value.slice A6 ps.length c6).ownBlock = some g → w.heap.size + 3 ≤ g ∧ g < wr.heap.size) := hD (fun g hg => HOs.out.lt g hg)
     have HBr : Hid (w.heap.size + 3 ≤ wr.heap.size) := hD s26
     clear a6 lz6 s16 s26
     have c0 : wr.cell? ⟨b, off + k * 12, none⟩ = some (.int .i64 x.server) := hc9 0 _ rfl
     have c1 : wr.cell? ⟨b, off + k * 12 + 1, none⟩ = some (.int .i64 x.view) := hc9 1 _ rfl
     have c2 : wr.cell? ⟨b, off + k * 12 + 2, none⟩ = some (.int .i64 x.length) := hc9 2 _ rfl
     have c3 : wr.cell? ⟨b, off + k * 12 + 3, none⟩ = some (.int .i64 x.lockView) := hc9 3 _ rfl
     have c4 : wr.cell? ⟨b, off + k * 12 + 4, none⟩ = some (.string ⟨x.lock.toArray⟩) := hc9 4 _ rfl
     have c5 : wr.cell? ⟨b, off + k * 12 + 5, none⟩ = some (.slice x.cert.a x.cert.l.length x.cert.c) := hc9 5 _ rfl
     have c6 : wr.cell? ⟨b, off + k * 12 + 6, none⟩ = some (.int .i64 x.signed.server) := hc9 6 _ rfl
     have c7 : wr.cell? ⟨b, off + k * 12 + 7, none⟩ = some (.int .i64 x.signed.kind) := hc9 7 _ rfl
     have c8 : wr.cell? ⟨b, off + k * 12 + 8, none⟩ = some (.int .i64 x.signed.view) := hc9 8 _ rfl
     have c9 : wr.cell? ⟨b, off + k * 12 + 9, none⟩ = some (.int .i64 x.signed.slot) := hc9 9 _ rfl
     have c10 : wr.cell? ⟨b, off + k * 12 + 10, none⟩ = some (.string ⟨x.signed.digest.toArray⟩) := hc9 10 _ rfl
     have c11 : wr.cell? ⟨b, off + k * 12 + 11, none⟩ = some (.string ⟨x.signed.sig.toArray⟩) := hc9 11 _ rfl
     have hgl : b < wr.heap.size := Nat.lt_of_lt_of_le hg HSe.out.low.size
     have HX7 := hD (Vz.new wr [.int .i64 x.server, .int .i64 x.view, .int .i64 x.length, .int .i64 x.lockView, .string ⟨x.lock.toArray⟩, .slice x.cert.a x.cert.l.length x.cert.c, .int .i64 x.signed.server, .int .i64 x.signed.kind, .int .i64 x.signed.view, .int .i64 x.signed.slot, .string ⟨x.signed.digest.toArray⟩, .string ⟨x.signed.sig.toArray⟩] 62)
     have hs := below_new wr (.cells #[.int .i64 x.server, .int .i64 x.view, .int .i64 x.length, .int .i64 x.lockView, .string ⟨x.lock.toArray⟩, .slice x.cert.a x.cert.l.length x.cert.c, .int .i64 x.signed.server, .int .i64 x.signed.kind, .int .i64 x.signed.view, .int .i64 x.signed.slot, .string ⟨x.signed.digest.toArray⟩, .string ⟨x.signed.sig.toArray⟩] 62)
     have HSe := hD (HSe.out.below hs)
     have HZ := hD (HZ.out.below hs)
     have HOs := hD (ownsRow_below HOs.out hs)
     have HOv := hD (ownsRow_below HOv.out hs)
     clear hcc hc9 hx hg hxo hP hs
     rw [hb0]
     go_upto_region 6 with fail
     generalize wr.alloc (.cells #[.int .i64 x.server, .int .i64 x.view, .int .i64 x.length, .int .i64 x.lockView, .string ⟨x.lock.toArray⟩, .slice x.cert.a x.cert.l.length x.cert.c, .int .i64 x.signed.server, .int .i64 x.signed.kind, .int .i64 x.signed.view, .int .i64 x.signed.slot, .string ⟨x.signed.digest.toArray⟩, .string ⟨x.signed.sig.toArray⟩] 62) = w6 at HX7 HSe HZ HOs HOv ⊢
     generalize wr.heap.size = g7 at HX7 HOlt HBr ⊢
     clear c0 c1 c2 c3 c4 c5 c6 c7 c8 c9 c10 c11 hgl hb0
     have a6 := HZ.out.cells 0 _ rfl
     have lz6 := HZ.out.lt
     by_cases h60 : ps.length < 60
     · have h61 : (ps.length : Int) < 60 := by omega
       have HC := hD (hasSt_any x g7 A6 c6 ps w6 HX7.out (St.below HXo.out.1 HSe.out.low) (cert_le HXo.out.2) (Rd.own HOs.out) (fun y hy => St.below (HBd.out.2.2 y hy).1 HSe.out.low) (fun y hy => cert_le2 (HBd.out.2.2 y hy).2) (by have := HLs.out; omega))
       cases hany : ps.any (sameSt x)
       · have HSs : Hid (seeSt ps x = ps ++ [x]) := hD (by unfold seeSt; rw [decide_eq_true h60, hany]; rfl)
         rw [hany] at HC
         clear hany
         go_wp2_with fail
         refine HC.out.mono ?_
         rintro e w7 ⟨rfl, hs⟩
         have HSe := hD (HSe.out.below hs)
         have HZ := hD (HZ.out.below hs)
         have HOs := hD (ownsRow_below HOs.out hs)
         have HOv := hD (ownsRow_below HOv.out hs)
         have HX7 := hD (HX7.out.below hs)
         clear a6 lz6 hs
         have a7 := HZ.out.cells 0 _ rfl
         have lz7 := HZ.out.lt
         have x0 := HX7.out.cells 0 _ rfl
         have x1 := HX7.out.cells 1 _ rfl
         have x2 := HX7.out.cells 2 _ rfl
         have x3 := HX7.out.cells 3 _ rfl
         have x4 := HX7.out.cells 4 _ rfl
         have x5 := HX7.out.cells 5 _ rfl
         have x6 := HX7.out.cells 6 _ rfl
         have x7 := HX7.out.cells 7 _ rfl
         have x8 := HX7.out.cells 8 _ rfl
         have x9 := HX7.out.cells 9 _ rfl
         have x10 := HX7.out.cells 10 _ rfl
         have x11 := HX7.out.cells 11 _ rfl
         have lx7 := HX7.out.lt
         have hw7 := HSe.out.st.2.1
         go_wp2_with (at_builtin; refine wpList_apg elemSt rfl _ _ rfl (w.heap.size + 3) rfl (HOs.out.alloc _) rfl (rd_new w7 12 1 [.int .i64 x.server, .int .i64 x.view, .int .i64 x.length, .int .i64 x.lockView, .string ⟨x.lock.toArray⟩, .slice x.cert.a x.cert.l.length x.cert.c, .int .i64 x.signed.server, .int .i64 x.signed.kind, .int .i64 x.signed.view, .int .i64 x.signed.slot, .string ⟨x.signed.digest.toArray⟩, .string ⟨x.signed.sig.toArray⟩] _ (by rfl)) (by simp [Value.oneCell']) (by omega) (by omega) (by simp; omega) ?_)
         intro A8 c8 w8 hown hgr
         have hal := below_new w7 (.cells #[.int .i64 x.server, .int .i64 x.view, .int .i64 x.length, .int .i64 x.lockView, .string ⟨x.lock.toArray⟩, .slice x.cert.a x.cert.l.length x.cert.c, .int .i64 x.signed.server, .int .i64 x.signed.kind, .int .i64 x.signed.view, .int .i64 x.signed.slot, .string ⟨x.signed.digest.toArray⟩, .string ⟨x.signed.sig.toArray⟩] 62)
         have hlt8 : ∀ g, (Value.slice A6 ps.length c6).ownBlock = some g → w.heap.size + 3 ≤ g := fun g hg => (HOlt.out g hg).1
         have HZ8 := hD ((HZ.out.below hal).grown hgr (fun e => by have := hlt8 _ e; omega))
         have HX8 := hD ((HX7.out.below hal).grown hgr (fun e => by have := (HOlt.out _ e).2; omega))
         have HOv8 := hD (own_kept (HOv.out.alloc _) hgr (fun g hg => own_apart HOv.out HOs.out (by decide) g hg))
         have HOs8 : Hid (w8.ownsRow (w.heap.size + 3) 62 12 (.slice A8 (ps.length + 1) c8) (ps.length + 1) ((ps ++ [x]).flatMap stC)) := hD (by rw [List.flatMap_append]; simpa [stC, Sl.v] using hown)
         have HM8 := hD ((Mv.below (b := w.heap.size) hw7 hal).trans (Mv.grown (by simp; omega) hgr hlt8))
         have hsz8 : w.heap.size + 3 ≤ w8.heap.size := Nat.le_trans hw7 (Nat.le_trans hal.size hgr.size)
         have f0 := HZ8.out.free 0 (by simp)
         have d0 := HZ8.out.cells 0 _ rfl
         have l8 := HZ8.out.lt
         clear hown hgr hal hlt8 a7 lz7 x0 x1 x2 x3 x4 x5 x6 x7 x8 x9 x10 x11 lx7
         go_upto_region 8 with fail
         have hm9 := HM8.out.trans (Mv.grownB hsz8 (grown_set w8 ⟨w.heap.size, 0, none⟩ (.slice A8 (ps.length + 1) c8)))
         have hs9 : Sn2 (w.heap.size + 3) w.heap.size (ps ++ [x]) pv (w8.setCell ⟨w.heap.size, 0, none⟩ (.slice A8 (ps.length + 1) c8)) := ⟨by omega, by simpa using hsz8, A8, c8, B6, d6, by have h9 := HZ8.out.set 0 (.slice A8 (ps.length + 1) c8); simpa using h9, by have h9 := own_far HOs8.out ⟨w.heap.size, 0, none⟩ (.slice A8 (ps.length + 1) c8) (by show w.heap.size < _; omega); simpa using h9, own_far HOv8.out _ _ (by show w.heap.size < _; omega)⟩
         have HSe := hD (HSe.out.mv hm9 hs9)
         have HX7 := hD (HX8.out.grown (grown_set w8 ⟨w.heap.size, 0, none⟩ (.slice A8 (ps.length + 1) c8)) (by have := HBr.out; simp; omega))
         clear hm9 hs9 f0 d0 l8 HZ HOs HOv HZ8 HX8 HOs8 HOv8 HM8
         generalize w8.setCell ⟨w.heap.size, 0, none⟩ (.slice A8 (ps.length + 1) c8) = w10 at HSe HX7 ⊢
         have HP : Hid (seeF (ps, pv) x = (ps ++ [x], learnV pv x.lock)) := hD (by unfold seeF; simp only; rw [HSs.out])
         have x4 := HX7.out.cells 4 _ rfl
         have lx7 := HX7.out.lt
         go_wp2_with fail
         refine (learn_any (w.heap.size + 3) w.heap.size (ps ++ [x]) (pv) (x.lock) _ (HE.out.below HSe.out.low) HSe.out.st HXl.out HLv.out).mono ?_
         rintro e w9 ⟨rfl, hs2, hmv⟩
         have HSe := hD (HSe.out.mv hmv hs2)
         clear hs2 hmv
         clear x4 lx7
         go_wp2_with fail
         go_roundw
         case rel => exact ⟨k + 1, by go_num, by omega, by rw [HTk.out, HP.out]; exact HSe.out⟩
         case measure => simp [intOf]; omega
       · have HSs : Hid (seeSt ps x = ps) := hD (by unfold seeSt; rw [hany]; simp)
         rw [hany] at HC
         clear hany
         go_wp2_with fail
         refine HC.out.mono ?_
         rintro e w7 ⟨rfl, hs⟩
         have HSe := hD (HSe.out.below hs)
         have HZ := hD (HZ.out.below hs)
         have HOs := hD (ownsRow_below HOs.out hs)
         have HOv := hD (ownsRow_below HOv.out hs)
         have HX7 := hD (HX7.out.below hs)
         clear a6 lz6 hs
         have HP : Hid (seeF (ps, pv) x = (ps, learnV pv x.lock)) := hD (by unfold seeF; simp only; rw [HSs.out])
         have x4 := HX7.out.cells 4 _ rfl
         have lx7 := HX7.out.lt
         go_wp2_with fail
         refine (learn_any (w.heap.size + 3) w.heap.size (ps) (pv) (x.lock) _ (HE.out.below HSe.out.low) HSe.out.st HXl.out HLv.out).mono ?_
         rintro e w9 ⟨rfl, hs2, hmv⟩
         have HSe := hD (HSe.out.mv hmv hs2)
         clear hs2 hmv
         clear x4 lx7
         go_wp2_with fail
         go_roundw
         case rel => exact ⟨k + 1, by go_num, by omega, by rw [HTk.out, HP.out]; exact HSe.out⟩
         case measure => simp [intOf]; omega
     · have h61 : ¬ (ps.length : Int) < 60 := by omega
       have HSs : Hid (seeSt ps x = ps) := hD (by unfold seeSt; rw [decide_eq_false h60]; simp)
       have HP : Hid (seeF (ps, pv) x = (ps, learnV pv x.lock)) := hD (by unfold seeF; simp only; rw [HSs.out])
       have x4 := HX7.out.cells 4 _ rfl
       have lx7 := HX7.out.lt
       go_wp2_with fail
       refine (learn_any (w.heap.size + 3) w.heap.size (ps) (pv) (x.lock) _ (HE.out.below HSe.out.low) HSe.out.st HXl.out HLv.out).mono ?_
       rintro e w9 ⟨rfl, hs2, hmv⟩
       have HSe := hD (HSe.out.mv hmv hs2)
       clear hs2 hmv
       clear x4 lx7
       go_wp2_with fail
       go_roundw
       case rel => exact ⟨k + 1, by go_num, by omega, by rw [HTk.out, HP.out]; exact HSe.out⟩
       case measure => simp [intOf]; omega
   · obtain rfl : k = m.statuses.l.length := by omega
     rw [List.take_length] at HSe
     obtain ⟨Q, hQ⟩ : ∃ Q, Q = m.statuses.l.foldl seeF (ss, vs) := ⟨_, rfl⟩
     have HBd : Hid (Q.1.length ≤ 1048576 ∧ Q.2.length ≤ 1048576 ∧ ∀ y ∈ Q.1, y.ok w ∧ y.sz ≤ 16777216) := hD (by have h9 := see_bd ss vs m.statuses.l w hl1 hl2 HSso.out (fun y hy => ⟨(HStO.out y hy).1, Nat.le_trans (HStO.out y hy).2 (by decide)⟩) m.statuses.l.length; rw [List.take_length] at h9; rw [hQ]; exact h9)
     have HAll : Hid (seeAll ss vs m = (Q.1, m.entries.l.foldl seeV (learnV Q.2 m.value))) := hD (by unfold seeAll; rw [← hQ])
     rw [← hQ] at HSe
     clear hQ
     obtain ⟨qs, qv⟩ := Q
     simp only at HSe HBd HAll
     have m5 := HSe.out.msg.cells 5 _ rfl
     have lm := HSe.out.msg.lt
     go_wp2_with fail
     refine (learn_any (w.heap.size + 3) w.heap.size (qs) (qv) (m.value) _ (HE.out.below HSe.out.low) HSe.out.st HVal.out HBd.out.2.1).mono ?_
     rintro e w6 ⟨rfl, hs2, hmv⟩
     have HSe := hD (HSe.out.mv hmv hs2)
     clear hs2 hmv
     obtain ⟨qw, hqw⟩ : ∃ qw, qw = learnV qv m.value := ⟨_, rfl⟩
     have HQw : Hid (qw.length ≤ 1048576) := hD (by rw [hqw]; exact learnV_len _ _ HBd.out.2.1)
     rw [← hqw] at HSe HAll
     clear m5 lm hqw
     have m14 : w6.cell? ⟨w.heap.size + 1, 14, none⟩ = some (.slice m.entries.a m.entries.l.length m.entries.c) := HSe.out.msg.cells 14 _ rfl
     have lm := HSe.out.msg.lt
     go_wp2_with fail
     clear m14 lm
     go_loopw [55] (fun i wr => ∃ k : Nat, i = .int .i64 k ∧ k ≤ m.entries.l.length ∧ Se w m qs ((m.entries.l.take k).foldl seeV qw) wr) (fun i _ => m.entries.l.length - (intOf i).toNat)
     case atStart => exact ⟨0, rfl, by omega, HSe.out⟩
     case round =>
      obtain ⟨k, rfl, hk, hse⟩ := hrel
      have HSe := hD hse
      clear hse
      by_cases hlt : k < m.entries.l.length
      · have i0' : (0 : Int) ≤ (k : Int) := by omega
        have i1 : (k : Int) < (m.entries.l.length : Int) := by omega
        obtain ⟨b, off, hb0, hg, hcc⟩ := Rd.at HEnt.out deC_len (by decide) hlt
        have HTk := hD (take_one seeV qw m.entries.l k hlt)
        have hxo := HDeO.out _ (List.getElem_mem hlt)
        obtain ⟨x, hx⟩ : ∃ x, x = m.entries.l[k] := ⟨_, rfl⟩
        have hc9 := hcc wr HSe.out.low
        rw [← hx] at hc9 HTk hxo
        obtain ⟨P, hP⟩ : ∃ P, P = (m.entries.l.take k).foldl seeV qw := ⟨_, rfl⟩
        have HLv : Hid (P.length ≤ 1048576) := hD (by rw [hP]; exact seeV_bd qw m.entries.l HQw.out k)
        rw [← hP] at HSe HTk
        have HXl := hD hxo
        have c0 : wr.cell? ⟨b, off + k * 3, none⟩ = some (.int .i64 x.view) := hc9 0 _ rfl
        have c1 : wr.cell? ⟨b, off + k * 3 + 1, none⟩ = some (.string ⟨x.value.toArray⟩) := hc9 1 _ rfl
        have c2 : wr.cell? ⟨b, off + k * 3 + 2, none⟩ = some (.slice x.cert.a x.cert.l.length x.cert.c) := hc9 2 _ rfl
        have hgl : b < wr.heap.size := Nat.lt_of_lt_of_le hg HSe.out.low.size
        have HSe := hD (HSe.out.below (below_new wr (.cells #[.int .i64 x.view, .string ⟨x.value.toArray⟩, .slice x.cert.a x.cert.l.length x.cert.c] 103)))
        clear hcc hc9 hx hg hxo hP
        rw [hb0]
        go_wp2_with fail
        refine (learn_any (w.heap.size + 3) w.heap.size (qs) (P) (x.value) _ (HE.out.below HSe.out.low) HSe.out.st HXl.out HLv.out).mono ?_
        rintro e w9 ⟨rfl, hs2, hmv⟩
        have HSe := hD (HSe.out.mv hmv hs2)
        clear hs2 hmv
        have HP : Hid (seeV P x = learnV P x.value) := hD rfl
        clear c0 c1 c2 hgl
        go_wp2_with fail
        go_roundw
        case rel => exact ⟨k + 1, by go_num, by omega, by rw [HTk.out, HP.out]; exact HSe.out⟩
        case measure => simp [intOf]; omega
      · obtain rfl : k = m.entries.l.length := by omega
        rw [List.take_length] at HSe
        obtain ⟨P, hP⟩ : ∃ P, P = m.entries.l.foldl seeV qw := ⟨_, rfl⟩
        rw [← hP] at HSe HAll
        obtain ⟨s16, s26, A6, c6, B6, d6, hvz6, ho6, hp6⟩ := HSe.out.st
        have HZ := hD hvz6
        have HOs := hD ho6
        have HOv := hD hp6
        have a6 := hvz6.cells 0 _ rfl
        have lz6 := hvz6.lt
        clear hvz6 ho6 hp6
        have b6 := HZ.out.cells 1 _ rfl
        have y0 := HSe.out.res.cells 0 _ rfl
        have y1 := HSe.out.res.cells 1 _ rfl
        have e0 := HSe.out.res.free 0 (by simp)
        have e1 := HSe.out.res.free 1 (by simp)
        have ly := HSe.out.res.lt
        have hge : w.heap.size ≤ w.heap.size + 2 := by omega
        have hlow := (HSe.out.low.setCell (p := ⟨w.heap.size + 2, 0, none⟩) hge (.slice A6 qs.length c6)).setCell (p := ⟨w.heap.size + 2, 1, none⟩) hge (.slice B6 P.length d6)
        have HLow := hD hlow
        clear hlow hP s16 s26
        go_wp2_with fail
        refine bodyPost_ret (v := .agg #[.slice A6 qs.length c6, .slice B6 P.length d6]) (by simp [results, Tryz.results20, go_sem, y0, y1]) rfl ?_
        rw [HAll.out]
        exact ⟨A6, c6, B6, d6, rfl, Rd.own (own_far (own_far HOs.out ⟨w.heap.size + 2, 0, none⟩ _ (by show w.heap.size + 2 < _; omega)) ⟨w.heap.size + 2, 1, none⟩ _ (by show w.heap.size + 2 < _; omega)), Rd.own (own_far (own_far HOv.out ⟨w.heap.size + 2, 0, none⟩ _ (by show w.heap.size + 2 < _; omega)) ⟨w.heap.size + 2, 1, none⟩ _ (by show w.heap.size + 2 < _; omega)), HLow.out⟩
 refine wp_region_noPanic ?_
 have HL := hD (bon HL0.out (Below.refl _ _).drew)
 have HZ := hD (HZ0.out.below (Below.refl _ _).drew)
 have HMm := hD (HM0.out.below (Below.refl _ _).drew)
 have HRr := hD (HR0.out.below (Below.refl _ _).drew)
 generalize hv : w3.drew = v0 at HL HZ HMm HRr
 have hS0 : True := trivial
 refine wp_region_held_drew (S := fun _ => True) (by kernel_rfl) trivial (fun hHeld => ?_)
 rw [hv]
 clear hv hHeld
 refine takes [0,3] ?_
 refine wpAnyH_ready (rs := [1, 4]) (by kernel_rfl) (by simp) ?_
 refine AllReadyH.cons (o := _) rfl (fun K hK => ?_) (AllReadyH.cons (o := _) rfl (fun K hK => ?_) AllReadyH.nil)
 · have x1 := HZ.out.cells 0 _ rfl
   have lx := HZ.out.lt
   go_simp
   clear x1 lx
   refine hK.out _ _ trivial (fun hHeld => ?_)
   clear hK K
   try simp only [Act.put,qk1,qk2,qk3,qk4,qk5,qk6]
   refine wpAnyH_ready (rs := [2, 4]) (by kernel_rfl) (by simp) ?_
   refine AllReadyH.cons (o := _) rfl (fun K hK => ?_) (AllReadyH.cons (o := _) rfl (fun K hK => ?_) AllReadyH.nil)
   · go_simp
     go_at_call 17
     refine (HC17.out _ HL.out).mono ?_
     rintro e v1 ⟨A7, c7, rfl, hown, hs⟩
     have hq := HRr.out.lt
     have HOs := hD (ownsRow_base (base' := w.heap.size + 3) hown hq)
     have HL := hD (bon HL.out hs)
     have HMm := hD (HMm.out.below hs)
     have HRr := hD (HRr.out.below hs)
     have HZ := hD (HZ.out.below hs)
     clear hs hown hq
     go_wp2_with fail
     refine hK.out _ _ trivial (fun hHeld => ?_)
     clear hK K
     try simp only [Act.put,qk1,qk2,qk3,qk4,qk5,qk6]
     refine tkr 4 rfl (fun K hK => ?_)
     have x4 := HZ.out.cells 1 _ rfl
     have lx := HZ.out.lt
     go_simp
     clear x4 lx
     refine hK.out _ _ trivial (fun hHeld => ?_)
     clear hK K
     try simp only [Act.put,qk1,qk2,qk3,qk4,qk5,qk6]
     refine takes [6] ?_
     refine tkr 5 rfl (fun K hK => ?_)
     go_simp
     go_at_call 18
     refine (HC18.out _ HL.out).mono ?_
     rintro e v2 ⟨B7, d7, rfl, hown, hs⟩
     have hq := HRr.out.lt
     have HOs := hD (ownsRow_below HOs.out hs)
     have HOv := hD (ownsRow_base (base' := w.heap.size + 3) hown hq)
     have HL := hD (bon HL.out hs)
     have HMm := hD (HMm.out.below hs)
     have HRr := hD (HRr.out.below hs)
     have HZ := hD (HZ.out.below hs)
     clear hs hown hq
     go_wp2_with fail
     refine hK.out _ _ trivial (fun hHeld => ?_)
     clear hK K
     try simp only [Act.put,qk1,qk2,qk3,qk4,qk5,qk6]
     refine tkr 7 rfl (fun K hK => ?_)
     have x0 := HZ.out.cells 0 _ rfl
     have f0 := HZ.out.free 0 (by simp)
     have lx := HZ.out.lt
     go_simp
     have hg := grown_set v2 ⟨w.heap.size, 0, none⟩ (.slice A7 ss.length c7)
     have HL := hD (HL.out.setCell (p := ⟨w.heap.size, 0, none⟩) (Nat.le_refl _) (.slice A7 ss.length c7))
     have HMm := hD (HMm.out.grown hg (by simp))
     have HRr := hD (HRr.out.grown hg (by simp))
     have HOs := hD (own_far HOs.out ⟨w.heap.size, 0, none⟩ (.slice A7 ss.length c7) (by show w.heap.size < _; omega))
     have HOv := hD (own_far HOv.out ⟨w.heap.size, 0, none⟩ (.slice A7 ss.length c7) (by show w.heap.size < _; omega))
     have HZ := hD ((HZ.out.set 0 (.slice A7 ss.length c7)).eq (cs' := [.slice A7 ss.length c7, .slice Av vs.length cv]) rfl)
     clear x0 f0 lx hg
     generalize World.setCell v2 ⟨w.heap.size, 0, none⟩ (.slice A7 ss.length c7) = v3 at HL HMm HRr HOs HOv HZ ⊢
     refine hK.out _ _ trivial (fun hHeld => ?_)
     clear hK K
     try simp only [Act.put,qk1,qk2,qk3,qk4,qk5,qk6]
     refine takes [8] ?_
     refine tkr 9 rfl (fun K hK => ?_)
     have x0 := HZ.out.cells 1 _ rfl
     have f0 := HZ.out.free 1 (by simp)
     have lx := HZ.out.lt
     go_simp
     have hg := grown_set v3 ⟨w.heap.size, 1, none⟩ (.slice B7 vs.length d7)
     have HL := hD (HL.out.setCell (p := ⟨w.heap.size, 1, none⟩) (Nat.le_refl _) (.slice B7 vs.length d7))
     have HMm := hD (HMm.out.grown hg (by simp))
     have HRr := hD (HRr.out.grown hg (by simp))
     have HOs := hD (own_far HOs.out ⟨w.heap.size, 1, none⟩ (.slice B7 vs.length d7) (by show w.heap.size < _; omega))
     have HOv := hD (own_far HOv.out ⟨w.heap.size, 1, none⟩ (.slice B7 vs.length d7) (by show w.heap.size < _; omega))
     have HZ := hD ((HZ.out.set 1 (.slice B7 vs.length d7)).eq (cs' := [.slice A7 ss.length c7, .slice B7 vs.length d7]) rfl)
     clear x0 f0 lx hg
     generalize World.setCell v3 ⟨w.heap.size, 1, none⟩ (.slice B7 vs.length d7) = v4 at HL HMm HRr HOs HOv HZ ⊢
     refine hK.out _ _ trivial (fun hHeld => ?_)
     clear hK K
     try simp only [Act.put,qk1,qk2,qk3,qk4,qk5,qk6]
     refine wpAnyH_done (by kernel_rfl) ?_ _
     refine NoPanic.normal ?_
     have HSe : Hid (Se w m ss vs v4) := hD ⟨HL.out, ⟨by omega, HRr.out.lt, A7, c7, B7, d7, HZ.out, HOs.out, HOv.out⟩, HMm.out, HRr.out⟩
     clear HL HMm HRr HZ HOs HOv
     go_wp2_with fail
     go_meet
     case rel => exact HSe.out
   · have x4 := HZ.out.cells 1 _ rfl
     have lx := HZ.out.lt
     go_simp
     clear x4 lx
     refine hK.out _ _ trivial (fun hHeld => ?_)
     clear hK K
     try simp only [Act.put,qk1,qk2,qk3,qk4,qk5,qk6]
     refine tkr 2 rfl (fun K hK => ?_)
     go_simp
     go_at_call 17
     refine (HC17.out _ HL.out).mono ?_
     rintro e v1 ⟨A7, c7, rfl, hown, hs⟩
     have hq := HRr.out.lt
     have HOs := hD (ownsRow_base (base' := w.heap.size + 3) hown hq)
     have HL := hD (bon HL.out hs)
     have HMm := hD (HMm.out.below hs)
     have HRr := hD (HRr.out.below hs)
     have HZ := hD (HZ.out.below hs)
     clear hs hown hq
     go_wp2_with fail
     refine hK.out _ _ trivial (fun hHeld => ?_)
     clear hK K
     try simp only [Act.put,qk1,qk2,qk3,qk4,qk5,qk6]
     refine takes [6] ?_
     refine tkr 5 rfl (fun K hK => ?_)
     go_simp
     go_at_call 18
     refine (HC18.out _ HL.out).mono ?_
     rintro e v2 ⟨B7, d7, rfl, hown, hs⟩
     have hq := HRr.out.lt
     have HOs := hD (ownsRow_below HOs.out hs)
     have HOv := hD (ownsRow_base (base' := w.heap.size + 3) hown hq)
     have HL := hD (bon HL.out hs)
     have HMm := hD (HMm.out.below hs)
     have HRr := hD (HRr.out.below hs)
     have HZ := hD (HZ.out.below hs)
     clear hs hown hq
     go_wp2_with fail
     refine hK.out _ _ trivial (fun hHeld => ?_)
     clear hK K
     try simp only [Act.put,qk1,qk2,qk3,qk4,qk5,qk6]
     refine tkr 7 rfl (fun K hK => ?_)
     have x0 := HZ.out.cells 0 _ rfl
     have f0 := HZ.out.free 0 (by simp)
     have lx := HZ.out.lt
     go_simp
     have hg := grown_set v2 ⟨w.heap.size, 0, none⟩ (.slice A7 ss.length c7)
     have HL := hD (HL.out.setCell (p := ⟨w.heap.size, 0, none⟩) (Nat.le_refl _) (.slice A7 ss.length c7))
     have HMm := hD (HMm.out.grown hg (by simp))
     have HRr := hD (HRr.out.grown hg (by simp))
     have HOs := hD (own_far HOs.out ⟨w.heap.size, 0, none⟩ (.slice A7 ss.length c7) (by show w.heap.size < _; omega))
     have HOv := hD (own_far HOv.out ⟨w.heap.size, 0, none⟩ (.slice A7 ss.length c7) (by show w.heap.size < _; omega))
     have HZ := hD ((HZ.out.set 0 (.slice A7 ss.length c7)).eq (cs' := [.slice A7 ss.length c7, .slice Av vs.length cv]) rfl)
     clear x0 f0 lx hg
     generalize World.setCell v2 ⟨w.heap.size, 0, none⟩ (.slice A7 ss.length c7) = v3 at HL HMm HRr HOs HOv HZ ⊢
     refine hK.out _ _ trivial (fun hHeld => ?_)
     clear hK K
     try simp only [Act.put,qk1,qk2,qk3,qk4,qk5,qk6]
     refine takes [8] ?_
     refine tkr 9 rfl (fun K hK => ?_)
     have x0 := HZ.out.cells 1 _ rfl
     have f0 := HZ.out.free 1 (by simp)
     have lx := HZ.out.lt
     go_simp
     have hg := grown_set v3 ⟨w.heap.size, 1, none⟩ (.slice B7 vs.length d7)
     have HL := hD (HL.out.setCell (p := ⟨w.heap.size, 1, none⟩) (Nat.le_refl _) (.slice B7 vs.length d7))
     have HMm := hD (HMm.out.grown hg (by simp))
     have HRr := hD (HRr.out.grown hg (by simp))
     have HOs := hD (own_far HOs.out ⟨w.heap.size, 1, none⟩ (.slice B7 vs.length d7) (by show w.heap.size < _; omega))
     have HOv := hD (own_far HOv.out ⟨w.heap.size, 1, none⟩ (.slice B7 vs.length d7) (by show w.heap.size < _; omega))
     have HZ := hD ((HZ.out.set 1 (.slice B7 vs.length d7)).eq (cs' := [.slice A7 ss.length c7, .slice B7 vs.length d7]) rfl)
     clear x0 f0 lx hg
     generalize World.setCell v3 ⟨w.heap.size, 1, none⟩ (.slice B7 vs.length d7) = v4 at HL HMm HRr HOs HOv HZ ⊢
     refine hK.out _ _ trivial (fun hHeld => ?_)
     clear hK K
     try simp only [Act.put,qk1,qk2,qk3,qk4,qk5,qk6]
     refine wpAnyH_done (by kernel_rfl) ?_ _
     refine NoPanic.normal ?_
     have HSe : Hid (Se w m ss vs v4) := hD ⟨HL.out, ⟨by omega, HRr.out.lt, A7, c7, B7, d7, HZ.out, HOs.out, HOv.out⟩, HMm.out, HRr.out⟩
     clear HL HMm HRr HZ HOs HOv
     go_wp2_with fail
     go_meet
     case rel => exact HSe.out
 · have x4 := HZ.out.cells 1 _ rfl
   have lx := HZ.out.lt
   go_simp
   clear x4 lx
   refine hK.out _ _ trivial (fun hHeld => ?_)
   clear hK K
   try simp only [Act.put,qk1,qk2,qk3,qk4,qk5,qk6]
   refine tkr 1 rfl (fun K hK => ?_)
   have x1 := HZ.out.cells 0 _ rfl
   have lx := HZ.out.lt
   go_simp
   clear x1 lx
   refine hK.out _ _ trivial (fun hHeld => ?_)
   clear hK K
   try simp only [Act.put,qk1,qk2,qk3,qk4,qk5,qk6]
   refine tkr 2 rfl (fun K hK => ?_)
   go_simp
   go_at_call 17
   refine (HC17.out _ HL.out).mono ?_
   rintro e v1 ⟨A7, c7, rfl, hown, hs⟩
   have hq := HRr.out.lt
   have HOs := hD (ownsRow_base (base' := w.heap.size + 3) hown hq)
   have HL := hD (bon HL.out hs)
   have HMm := hD (HMm.out.below hs)
   have HRr := hD (HRr.out.below hs)
   have HZ := hD (HZ.out.below hs)
   clear hs hown hq
   go_wp2_with fail
   refine hK.out _ _ trivial (fun hHeld => ?_)
   clear hK K
   try simp only [Act.put,qk1,qk2,qk3,qk4,qk5,qk6]
   refine takes [6] ?_
   refine tkr 5 rfl (fun K hK => ?_)
   go_simp
   go_at_call 18
   refine (HC18.out _ HL.out).mono ?_
   rintro e v2 ⟨B7, d7, rfl, hown, hs⟩
   have hq := HRr.out.lt
   have HOs := hD (ownsRow_below HOs.out hs)
   have HOv := hD (ownsRow_base (base' := w.heap.size + 3) hown hq)
   have HL := hD (bon HL.out hs)
   have HMm := hD (HMm.out.below hs)
   have HRr := hD (HRr.out.below hs)
   have HZ := hD (HZ.out.below hs)
   clear hs hown hq
   go_wp2_with fail
   refine hK.out _ _ trivial (fun hHeld => ?_)
   clear hK K
   try simp only [Act.put,qk1,qk2,qk3,qk4,qk5,qk6]
   refine tkr 7 rfl (fun K hK => ?_)
   have x0 := HZ.out.cells 0 _ rfl
   have f0 := HZ.out.free 0 (by simp)
   have lx := HZ.out.lt
   go_simp
   have hg := grown_set v2 ⟨w.heap.size, 0, none⟩ (.slice A7 ss.length c7)
   have HL := hD (HL.out.setCell (p := ⟨w.heap.size, 0, none⟩) (Nat.le_refl _) (.slice A7 ss.length c7))
   have HMm := hD (HMm.out.grown hg (by simp))
   have HRr := hD (HRr.out.grown hg (by simp))
   have HOs := hD (own_far HOs.out ⟨w.heap.size, 0, none⟩ (.slice A7 ss.length c7) (by show w.heap.size < _; omega))
   have HOv := hD (own_far HOv.out ⟨w.heap.size, 0, none⟩ (.slice A7 ss.length c7) (by show w.heap.size < _; omega))
   have HZ := hD ((HZ.out.set 0 (.slice A7 ss.length c7)).eq (cs' := [.slice A7 ss.length c7, .slice Av vs.length cv]) rfl)
   clear x0 f0 lx hg
   generalize World.setCell v2 ⟨w.heap.size, 0, none⟩ (.slice A7 ss.length c7) = v3 at HL HMm HRr HOs HOv HZ ⊢
   refine hK.out _ _ trivial (fun hHeld => ?_)
   clear hK K
   try simp only [Act.put,qk1,qk2,qk3,qk4,qk5,qk6]
   refine takes [8] ?_
   refine tkr 9 rfl (fun K hK => ?_)
   have x0 := HZ.out.cells 1 _ rfl
   have f0 := HZ.out.free 1 (by simp)
   have lx := HZ.out.lt
   go_simp
   have hg := grown_set v3 ⟨w.heap.size, 1, none⟩ (.slice B7 vs.length d7)
   have HL := hD (HL.out.setCell (p := ⟨w.heap.size, 1, none⟩) (Nat.le_refl _) (.slice B7 vs.length d7))
   have HMm := hD (HMm.out.grown hg (by simp))
   have HRr := hD (HRr.out.grown hg (by simp))
   have HOs := hD (own_far HOs.out ⟨w.heap.size, 1, none⟩ (.slice B7 vs.length d7) (by show w.heap.size < _; omega))
   have HOv := hD (own_far HOv.out ⟨w.heap.size, 1, none⟩ (.slice B7 vs.length d7) (by show w.heap.size < _; omega))
   have HZ := hD ((HZ.out.set 1 (.slice B7 vs.length d7)).eq (cs' := [.slice A7 ss.length c7, .slice B7 vs.length d7]) rfl)
   clear x0 f0 lx hg
   generalize World.setCell v3 ⟨w.heap.size, 1, none⟩ (.slice B7 vs.length d7) = v4 at HL HMm HRr HOs HOv HZ ⊢
   refine hK.out _ _ trivial (fun hHeld => ?_)
   clear hK K
   try simp only [Act.put,qk1,qk2,qk3,qk4,qk5,qk6]
   refine wpAnyH_done (by kernel_rfl) ?_ _
   refine NoPanic.normal ?_
   have HSe : Hid (Se w m ss vs v4) := hD ⟨HL.out, ⟨by omega, HRr.out.lt, A7, c7, B7, d7, HZ.out, HOs.out, HOv.out⟩, HMm.out, HRr.out⟩
   clear HL HMm HRr HZ HOs HOv
   go_wp2_with fail
   go_meet
   case rel => exact HSe.out
end Go.Proofs.YtikpcebhcnjkhaaGreatDoor
