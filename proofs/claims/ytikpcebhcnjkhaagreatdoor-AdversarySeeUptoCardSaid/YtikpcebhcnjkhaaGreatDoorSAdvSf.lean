/- ref51.seeValue. -/
import Derived.Deep.Cut
import Derived.Deep.CutRange
import Derived.Test.YtikpcebhcnjkhaaGreatDoorSPl
import Derived.Test.YtikpcebhcnjkhaaGreatDoorSAdvSc
import Derived.Test.YtikpcebhcnjkhaaGreatDoorSA8
import Derived.Test.YtikpcebhcnjkhaaGreatDoorSEe
namespace Go.Proofs.YtikpcebhcnjkhaaGreatDoor
open Go.RowKit Q40
theorem strC_oneB (l : List (List UInt8)) : ∀ u ∈ strC l, u.oneCell' = true := by
 intro u hu
 obtain ⟨x, _, rfl⟩ := List.mem_map.1 hu
 rfl
def RetVals (As : Option Addr) (ns cs : Nat) (Bv : Option Addr) (v0 vs : List (List UInt8)) (w : World) (e : Ending) (w' : World) : Prop := ∃ B d, e = .returned (.agg #[.slice As ns cs, .slice B vs.length d]) ∧ Rd w' 1 B vs.length (strC vs) ∧ Below w.heap.size w w' ∧ ∀ g, g < w.heap.size → RdN g w 1 Bv v0.length (strC v0) → RdN g w' 1 B vs.length (strC vs)
theorem RdN.below {w w' : World} {g k n : Nat} {A : Option Addr} {xs : List Value} (h : RdN g w k A n xs) (hb : Below w.heap.size w w') : RdN g w' k A n xs :=
 ⟨h.len, fun hj => by
  obtain ⟨b, o, e, hl, hne, hc⟩ := h.cells hj
  exact ⟨b, o, e, Nat.lt_of_lt_of_le hl hb.size, hne, fun j u hu => (hb.cell (p := ⟨b, o + j, none⟩) hl).trans (hc j u hu)⟩⟩
theorem RdN.rd {w : World} {g k n : Nat} {A : Option Addr} {xs : List Value} (h : RdN g w k A n xs) : Rd w k A n xs :=
 ⟨h.len, fun hj => by
  obtain ⟨b, o, e, hl, _, hc⟩ := h.cells hj
  exact ⟨b, o, e, hl, hc⟩⟩
theorem RdN.far {w : World} {g k n : Nat} {A : Option Addr} {xs : List Value} (h : RdN g w k A n xs) (i : Nat) (v : Value) : RdN g (w.setCell ⟨g, i, none⟩ v) k A n xs :=
 ⟨h.len, fun hj => by
  obtain ⟨b, o, e, hl, hne, hc⟩ := h.cells hj
  exact ⟨b, o, e, by simpa using hl, hne, fun j u hu => (World.cell?_setCell_other _ _ _ _ (set_ne _ _ (Ne.symm hne))).trans (hc j u hu)⟩⟩
theorem RdN.far2 {w : World} {g g' k n : Nat} {A : Option Addr} {xs : List Value} (h : RdN g w k A n xs) (h' : RdN g' w k A n xs) (i : Nat) (v : Value) : RdN g' (w.setCell ⟨g, i, none⟩ v) k A n xs :=
 ⟨h.len, fun hj => by
  obtain ⟨b, o, e, hl, hne, hc⟩ := h.cells hj
  obtain ⟨b', o', e', hl', hne', hc'⟩ := h'.cells hj
  have he : some (⟨b, o, none⟩ : Addr) = some ⟨b', o', none⟩ := e.symm.trans e'
  injection he with he
  injection he with he1 he2
  subst he1
  exact ⟨b, o, e, by simpa using hl, hne', fun j u hu => (World.cell?_setCell_other _ _ _ _ (set_ne _ _ (Ne.symm hne))).trans (hc j u hu)⟩⟩
theorem RdN.own {w : World} {g base e k n c : Nat} {A : Option Addr} {xs : List Value} (h : w.ownsRow base e k (.slice A n c) n xs) (hg : g < base) : RdN g w k A n xs := by
 refine ⟨h.1, fun hj => ?_⟩
 obtain ⟨b, o, e1, hl, hc⟩ := (Rd.own h).cells hj
 refine ⟨b, o, e1, hl, ?_, hc⟩
 have h2 := (h.lt b (by rw [e1]; rfl)).1
 omega
set_option maxRecDepth 100000 in
set_option maxHeartbeats 4000000 in
theorem refSeeV_any (As Bv : Option Addr) (ns cs dv : Nat) (vs : List (List UInt8)) (v : List UInt8) (w : World) (hvs : Rd w 1 Bv vs.length (strC vs)) (hv : v.length ≤ 1048576) (hl : vs.length ≤ 1048576) :
    Calls Tryz.prog 46 #[.agg #[.slice As ns cs, .slice Bv vs.length dv], .string ⟨v.toArray⟩] w (RetVals As ns cs Bv vs (learnV vs v) w) := by
 have HL0 : Hid (Below w.heap.size w ((w.alloc (.cells #[.slice As ns cs, .slice Bv vs.length dv] 59)).alloc (.cells #[.slice none 0 0, .slice none 0 0] 59))) := hD (bon (below_new w _) (below_new _ _))
 have HZ0 : Hid (Vz ((w.alloc (.cells #[.slice As ns cs, .slice Bv vs.length dv] 59)).alloc (.cells #[.slice none 0 0, .slice none 0 0] 59)) w.heap.size [.slice As ns cs, .slice Bv vs.length dv]) := hD ((Vz.new w [.slice As ns cs, .slice Bv vs.length dv] 59).below (below_new _ _))
 have HR0 : Hid (Vz ((w.alloc (.cells #[.slice As ns cs, .slice Bv vs.length dv] 59)).alloc (.cells #[.slice none 0 0, .slice none 0 0] 59)) (w.heap.size + 1) [.slice none 0 0, .slice none 0 0]) := hD (by
  have h9 := Vz.new (w.alloc (.cells #[.slice As ns cs, .slice Bv vs.length dv] 59)) [.slice none 0 0, .slice none 0 0] 59
  rw [World.size_alloc] at h9
  exact h9)
 obtain ⟨w2, hw2⟩ : ∃ w2, w2 = ((w.alloc (.cells #[.slice As ns cs, .slice Bv vs.length dv] 59)).alloc (.cells #[.slice none 0 0, .slice none 0 0] 59)) := ⟨_, rfl⟩
 rw [← hw2] at HL0 HZ0 HR0
 have HW2 : Hid (((w.alloc (.cells #[.slice As ns cs, .slice Bv vs.length dv] 59)).alloc (.cells #[.slice none 0 0, .slice none 0 0] 59)) = w2) := hD hw2.symm
 have HVs : Hid (∀ W, Below w.heap.size w W → Rd W 1 Bv vs.length (strC vs)) := hD (fun W hb => hvs.below hb)
 clear hw2 hvs
 cases hd : decE v with
 | none =>
  have HD := hD (refDecode_none v w2 hv hd)
  have HV2 : Hid (learnV vs v = vs) := hD (by unfold learnV; rw [hd]; rfl)
  clear hd
  go_enter Tryz.func46, Tryz.ntmps46
  go_upto_region 1 with fail
  refine world_eqA HW2.out ?_
  go_wp2_with fail
  refine HD.out.mono ?_
  rintro e w3 ⟨rfl, hb⟩
  have hb2 := bon hb (below_new w3 (.cells #[.int .i64 0, .int .i64 0, .slice none 0 0] 95))
  have HL := hD (bon HL0.out hb2)
  have HZ := hD (HZ0.out.below hb2)
  have HRr := hD (HR0.out.below hb2)
  clear hb hb2
  go_upto_region 2 with fail
  generalize w3.alloc (.cells #[.int .i64 0, .int .i64 0, .slice none 0 0] 95) = w4 at HL HZ HRr ⊢
  have z0 := HZ.out.cells 0 _ rfl
  have z1 := HZ.out.cells 1 _ rfl
  have lz := HZ.out.lt
  have y0 := HRr.out.cells 0 _ rfl
  have y1 := HRr.out.cells 1 _ rfl
  have e0 := HRr.out.free 0 (by simp)
  have e1 := HRr.out.free 1 (by simp)
  have ly := HRr.out.lt
  have hge : w.heap.size ≤ w.heap.size + 1 := by omega
  have HLw := hD ((HL.out.setCell (p := ⟨w.heap.size + 1, 0, none⟩) hge (.slice As ns cs)).setCell (p := ⟨w.heap.size + 1, 1, none⟩) hge (.slice Bv vs.length dv))
  go_wp2_with fail
  refine bodyPost_ret (v := .agg #[.slice As ns cs, .slice Bv vs.length dv]) (by simp [results, Tryz.results46, go_sem, y0, y1]) rfl ?_
  rw [HV2.out]
  exact ⟨Bv, dv, rfl, HVs.out _ HLw.out, HLw.out, fun g _ h => h.below HLw.out⟩
 | some x =>
  have HD := hD (refDecode_some v w2 hv x hd)
  have HV : Hid (learnV vs v = if (decide (vs.length < 30) && !decide (v ∈ vs)) = true then vs ++ [v] else vs) := hD (by unfold learnV; rw [hd]; rfl)
  clear hd
  go_enter Tryz.func46, Tryz.ntmps46
  go_upto_region 1 with fail
  refine world_eqA HW2.out ?_
  go_wp2_with fail
  refine HD.out.mono ?_
  rintro e w3 ⟨A9, c9, ⟨rfl, _⟩, hb⟩
  have hb2 := bon hb (below_new w3 (.cells #[.int .i64 x.kind, .int .i64 x.cfg, .slice A9 x.rs.length c9] 95))
  have HL := hD (bon HL0.out hb2)
  have HZ := hD (HZ0.out.below hb2)
  have HRr := hD (HR0.out.below hb2)
  clear hb hb2
  go_upto_region 2 with fail
  generalize w3.alloc (.cells #[.int .i64 x.kind, .int .i64 x.cfg, .slice A9 x.rs.length c9] 95) = w4 at HL HZ HRr ⊢
  by_cases h30 : vs.length < 30
  · have h31 : (vs.length : Int) < 30 := by omega
    have z1 := HZ.out.cells 1 _ rfl
    have lz := HZ.out.lt
    go_wp2_with fail
    go_loopw [7] (fun i wr => ∃ k : Nat, i = .int .i64 k ∧ k ≤ vs.length ∧ v ∉ vs.take k ∧ wr = w4) (fun i _ => vs.length - (intOf i).toNat)
    case atStart => exact ⟨0, rfl, by omega, by simp, rfl⟩
    case round =>
     obtain ⟨k, rfl, hk, hm, hwr⟩ := hrel
     subst hwr
     have HM := hD hm
     clear hm
     by_cases hlt : k < vs.length
     · have i0' : (0 : Int) ≤ (k : Int) := by omega
       have i1 : (k : Int) < (vs.length : Int) := by omega
       obtain ⟨b, off, rfl, hg, c0⟩ := strs_at (HVs.out wr HL.out) hlt
       obtain ⟨y, hy⟩ : ∃ y, y = vs[k] := ⟨_, rfl⟩
       rw [← hy] at c0
       by_cases hq : v = y
       · have q1 : (y == v) = true := by simp [hq]
         have HV2 : Hid (learnV vs v = vs) := hD (by
          have h1 : v ∈ vs := by rw [hq, hy]; exact List.getElem_mem hlt
          rw [HV.out, decide_eq_true h1]; simp)
         clear hq hy
         have z0 := HZ.out.cells 0 _ rfl
         have y0 := HRr.out.cells 0 _ rfl
         have y1 := HRr.out.cells 1 _ rfl
         have e0 := HRr.out.free 0 (by simp)
         have e1 := HRr.out.free 1 (by simp)
         have ly := HRr.out.lt
         have hge : w.heap.size ≤ w.heap.size + 1 := by omega
         have HLw := hD ((HL.out.setCell (p := ⟨w.heap.size + 1, 0, none⟩) hge (.slice As ns cs)).setCell (p := ⟨w.heap.size + 1, 1, none⟩) hge (.slice (some ⟨b, off, none⟩) vs.length dv))
         go_wp2_with fail
         refine bodyPost_ret (v := .agg #[.slice As ns cs, .slice (some ⟨b, off, none⟩) vs.length dv]) (by simp [results, Tryz.results46, go_sem, y0, y1]) rfl ?_
         rw [HV2.out]
         exact ⟨some ⟨b, off, none⟩, dv, rfl, HVs.out _ HLw.out, HLw.out, fun g _ h => h.below HLw.out⟩
       · have q1 : (y == v) = false := by simpa using fun h => hq h.symm
         have HF : Hid (v ∉ vs.take (k + 1)) := hD (mem_take_one vs k hlt v HM.out (by rw [← hy]; exact hq))
         clear hq hy
         go_wp2_with fail
         go_roundw
         case rel => exact ⟨k + 1, by go_num, by omega, HF.out, by first | rfl | trivial⟩
         case measure => simp [intOf]; omega
     · obtain rfl : k = vs.length := by omega
       have hin : v ∉ vs := by have h1 := HM.out; rwa [List.take_length] at h1
       have HV2 : Hid (learnV vs v = vs ++ [v]) := hD (by rw [HV.out, decide_eq_true h30, decide_eq_false hin]; rfl)
       clear hin h30 hlt
       go_upto_region 9 with fail
       have hsz := HL.out.size
       have hs1 := below_new wr (.cells #[] 9)
       have hsr : w.heap.size + 2 ≤ wr.heap.size := HRr.out.lt
       have HO := hD (World.ownsRow_lit (base := w.heap.size + 2) (e := 9) (size := 1) wr #[] 0 hsr (by simp) rfl)
       have HZ := hD (HZ.out.below hs1)
       have HRr := hD (HRr.out.below hs1)
       have HL := hD (bon HL.out hs1)
       clear z1 lz
       have z1 := HZ.out.cells 1 _ rfl
       have lz := HZ.out.lt
       have hsz5 : w.heap.size + 2 ≤ (wr.alloc (.cells #[] 9)).heap.size := HRr.out.lt
       go_wp2_with (at_builtin; refine wpList_apg elemS rfl _ _ rfl (w.heap.size + 2) rfl HO.out rfl (HVs.out _ HL.out) (strC_oneB _) (by omega) (by omega) hsz5 ?_)
       intro A5 c5 w5 hown5 hgr5
       have hl5 : ∀ g, (Value.slice (some ⟨wr.heap.size, 0, none⟩) 0 0).ownBlock = some g → w.heap.size + 2 ≤ g := fun g hg => (HO.out.lt g hg).1
       have HO5 : Hid (w5.ownsRow (w.heap.size + 2) 9 1 (.slice A5 vs.length c5) vs.length (strC vs)) := hD hown5
       have hs5 := below_new w5 (.cells #[.string ⟨v.toArray⟩] 9)
       have HL5 := hD (bon (below_grown HL.out HL.out.size hgr5 (fun g hg => by have := hl5 g hg; omega)) hs5)
       have HZ5 := hD ((HZ.out.grown hgr5 (fun e => by have := hl5 _ e; omega)).below hs5)
       have HRr5 := hD ((HRr.out.grown hgr5 (fun e => by have := hl5 _ e; omega)).below hs5)
       have hsz6 := HRr5.out.lt
       clear z1 lz hown5 hgr5 hl5 hs5 HZ HRr HL
       go_wp2_with (at_builtin; refine wpList_apg elemS rfl _ _ rfl (w.heap.size + 2) rfl (HO5.out.alloc _) rfl (rd_new w5 1 1 [.string ⟨v.toArray⟩] _ (by rfl)) (by simp [Value.oneCell']) (by omega) (by omega) hsz6 ?_)
       intro A7 c7 w7 hown7 hgr7
       have hl7 : ∀ g, (Value.slice A5 vs.length c5).ownBlock = some g → w.heap.size + 2 ≤ g := fun g hg => (HO5.out.lt g hg).1
       have HO7 : Hid (w7.ownsRow (w.heap.size + 2) 9 1 (.slice A7 (vs ++ [v]).length c7) (vs ++ [v]).length (strC (vs ++ [v]))) := hD (by simpa [strC] using hown7)
       have HL7 := hD (below_grown HL5.out HL5.out.size hgr7 (fun g hg => by have := hl7 g hg; omega))
       have HZ7 := hD (HZ5.out.grown hgr7 (fun e => by have := hl7 _ e; omega))
       have HR7 := hD (HRr5.out.grown hgr7 (fun e => by have := hl7 _ e; omega))
       have z0 := HZ7.out.cells 0 _ rfl
       have z1 := HZ7.out.cells 1 _ rfl
       have f1 := HZ7.out.free 1 (by simp)
       have lz := HZ7.out.lt
       clear hown7 hgr7 hl7
       go_upto_region 10 with fail
       have HL := hD (HL7.out.setCell (p := ⟨w.heap.size, 1, none⟩) (Nat.le_refl _) (.slice A7 (vs.length + 1) c7))
       have HZ := hD ((HZ7.out.set 1 (.slice A7 (vs.length + 1) c7)).eq (cs' := [.slice As ns cs, .slice A7 (vs.length + 1) c7]) rfl)
       have HRr := hD (HR7.out.grown (grown_set w7 ⟨w.heap.size, 1, none⟩ (.slice A7 (vs.length + 1) c7)) (by simp))
       have HO := hD (own_far HO7.out ⟨w.heap.size, 1, none⟩ (.slice A7 (vs.length + 1) c7) (by show w.heap.size < _; omega))
       clear z0 z1 f1 lz
       generalize w7.setCell ⟨w.heap.size, 1, none⟩ (.slice A7 (vs.length + 1) c7) = w8 at HL HZ HRr HO ⊢
       have z0 := HZ.out.cells 0 _ rfl
       have z1 := HZ.out.cells 1 _ rfl
       have lz := HZ.out.lt
       have y0 := HRr.out.cells 0 _ rfl
       have y1 := HRr.out.cells 1 _ rfl
       have e0 := HRr.out.free 0 (by simp)
       have e1 := HRr.out.free 1 (by simp)
       have ly := HRr.out.lt
       have hge : w.heap.size ≤ w.heap.size + 1 := by omega
       have HLw := hD ((HL.out.setCell (p := ⟨w.heap.size + 1, 0, none⟩) hge (.slice As ns cs)).setCell (p := ⟨w.heap.size + 1, 1, none⟩) hge (.slice A7 (vs.length + 1) c7))
       go_wp2_with fail
       refine bodyPost_ret (v := .agg #[.slice As ns cs, .slice A7 (vs.length + 1) c7]) (by simp [results, Tryz.results46, go_sem, y0, y1]) rfl ?_
       rw [HV2.out]
       have ho9 := own_far (own_far HO.out ⟨w.heap.size + 1, 0, none⟩ (.slice As ns cs) (by show w.heap.size + 1 < _; omega)) ⟨w.heap.size + 1, 1, none⟩ (.slice A7 (vs.length + 1) c7) (by show w.heap.size + 1 < _; omega)
       exact ⟨A7, c7, by simp, Rd.own ho9, HLw.out, fun g hg _ => RdN.own ho9 (by omega)⟩
  · have h31 : ¬ (vs.length : Int) < 30 := by omega
    have h32 : decide (vs.length < 30) = false := decide_eq_false h30
    have HV2 : Hid (learnV vs v = vs) := hD (by rw [HV.out, h32]; simp)
    have h33 : (30 : Int) ≤ (vs.length : Int) := by omega
    clear h30 h32
    have z0 := HZ.out.cells 0 _ rfl
    have z1 := HZ.out.cells 1 _ rfl
    have lz := HZ.out.lt
    have y0 := HRr.out.cells 0 _ rfl
    have y1 := HRr.out.cells 1 _ rfl
    have e0 := HRr.out.free 0 (by simp)
    have e1 := HRr.out.free 1 (by simp)
    have ly := HRr.out.lt
    have hge : w.heap.size ≤ w.heap.size + 1 := by omega
    have HLw := hD ((HL.out.setCell (p := ⟨w.heap.size + 1, 0, none⟩) hge (.slice As ns cs)).setCell (p := ⟨w.heap.size + 1, 1, none⟩) hge (.slice Bv vs.length dv))
    go_wp2_with fail
    refine bodyPost_ret (v := .agg #[.slice As ns cs, .slice Bv vs.length dv]) (by simp [results, Tryz.results46, go_sem, y0, y1]) rfl ?_
    rw [HV2.out]
    exact ⟨Bv, dv, rfl, HVs.out _ HLw.out, HLw.out, fun g _ h => h.below HLw.out⟩
end Go.Proofs.YtikpcebhcnjkhaaGreatDoor
