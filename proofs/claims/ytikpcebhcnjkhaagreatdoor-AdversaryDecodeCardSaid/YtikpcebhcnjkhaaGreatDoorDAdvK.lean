/- A configuration of a draft. -/
import Derived.Deep.Cut
import Derived.Deep.CutRange
import Derived.Test.YtikpcebhcnjkhaaGreatDoorDPl
import Derived.Test.YtikpcebhcnjkhaaGreatDoorDA2
namespace Go.Proofs.YtikpcebhcnjkhaaGreatDoor
open Go.RowKit
structure Vz (w : World) (b : Nat) (cs : List Value) : Prop where
 lt : b < w.heap.size
 cells : ∀ j v, cs[j]? = some v → w.cell? ⟨b, j, none⟩ = some v
 free : ∀ j, j < cs.length → w.frozen? ⟨b, j, none⟩ = false
theorem Vz.new (w : World) (cs : List Value) (T : TypeId) : Vz (w.alloc (.cells cs.toArray T)) w.heap.size cs where
 lt := by simp
 cells j v hv := by
  have := cell_new w cs T w.heap.size rfl j v hv
  rw [add_off, Nat.zero_add] at this
  exact this
 free j hj := by simp
theorem Vz.below {w w' : World} {b : Nat} {cs : List Value} (h : Vz w b cs) (hb : Below w.heap.size w w') : Vz w' b cs where
 lt := Nat.lt_of_lt_of_le h.lt hb.size
 cells j v hv := (hb.cell (p := ⟨b, j, none⟩) h.lt).trans (h.cells j v hv)
 free j hj := (hb.frozen (p := ⟨b, j, none⟩) h.lt).trans (h.free j hj)
theorem Vz.grown {w w' : World} {b : Nat} {g : Option Nat} {cs : List Value} (h : Vz w b cs) (hg : w.grownBy w' g) (hne : g ≠ some b) : Vz w' b cs where
 lt := Nat.lt_of_lt_of_le h.lt hg.size
 cells j v hv := (hg.cell_far ⟨b, j, none⟩ h.lt (by simpa using fun e => hne e.symm)).trans (h.cells j v hv)
 free j hj := (hg.frozen_far ⟨b, j, none⟩ h.lt (by simpa using fun e => hne e.symm)).trans (h.free j hj)
theorem Vz.set {w : World} {b : Nat} {cs : List Value} (h : Vz w b cs) (i : Nat) (v : Value) : Vz (w.setCell ⟨b, i, none⟩ v) b (cs.set i v) where
 lt := by simpa using h.lt
 cells j u hu := by
  by_cases e : i = j
  · subst e
    have hj : i < cs.length := by
     have := (List.getElem?_eq_some_iff.1 hu).1
     simpa using this
    rw [List.getElem?_set_self hj] at hu
    rw [← hu]
    exact World.cell?_setCell_same _ _ _ (h.cells i _ (List.getElem?_eq_getElem hj))
  · rw [List.getElem?_set_ne e] at hu
    exact (World.cell?_setCell_other _ _ _ _ (by simp [])).trans (h.cells j u hu)
 free j hj := (frz_set _ _ _ _).trans (h.free j (by rw [List.length_set] at hj; exact hj))
theorem set_ne {g b : Nat} (i j : Nat) (h : g ≠ b) : (⟨g, i, none⟩ : Addr) ≠ ⟨b, j, none⟩ := fun e => h (by injection e)
theorem Vz.eq {w : World} {b : Nat} {cs cs' : List Value} (h : Vz w b cs) (e : cs = cs') : Vz w b cs' := e ▸ h
def RetCfg (w : World) (e : Ending) (w' : World) : Prop := (∃ (nm : ByteArray) (k m : Int) (A B C : Option Addr) (n1 c1 n2 c2 n3 c3 : Nat), e = .returned (.agg #[.string nm, .int .i64 k, .int .u16 m, .slice A n1 c1, .slice B n2 c2, .slice C n3 c3])) ∧ Below w.heap.size w w'
structure Of3 (d : Dr) (w W : World) : Prop where
 low : Below w.heap.size w W
 lt : w.heap.size + 1 < W.heap.size
 cells : ∀ j v, [.int .u8 (d.kind : Int), .int .u8 2, .int .u8 (d.mode : Int), .slice d.read.a d.read.l.length d.read.c, .slice d.write.a d.write.l.length d.write.c, .slice d.faults.a d.faults.l.length d.faults.c][j]? = some v → W.cell? ⟨w.heap.size, j, none⟩ = some v
 res : Vz W (w.heap.size + 1) [.string ⟨#[]⟩, .int .i64 0, .int .u16 0, .slice none 0 0, .slice none 0 0, .slice none 0 0]
theorem Of3.below {d : Dr} {w W W' : World} (h : Of3 d w W) (hb : Below W.heap.size W W') : Of3 d w W' :=
 ⟨bon h.low hb, Nat.lt_of_lt_of_le h.lt hb.size, fun j v hj => (hb.cell (p := ⟨w.heap.size, j, none⟩) (by have := h.lt; show w.heap.size < W.heap.size; omega)).trans (h.cells j v hj), h.res.below hb⟩
theorem Of3.set {d : Dr} {w W : World} (h : Of3 d w W) {g : Nat} (hg : w.heap.size + 1 < g) (i : Nat) (u : Value) : Of3 d w (W.setCell ⟨g, i, none⟩ u) :=
 ⟨h.low.setCell (by show w.heap.size ≤ g; omega) u, by simpa using h.lt, fun j v hj => (World.cell?_setCell_other _ _ _ _ (set_ne _ _ (by omega))).trans (h.cells j v hj), h.res.grown (grown_set _ _ _) (by simp; omega)⟩
theorem Of3.new (d : Dr) (w : World) : Of3 d w ((w.alloc (.cells #[.int .u8 (d.kind : Int), .int .u8 2, .int .u8 (d.mode : Int), .slice d.read.a d.read.l.length d.read.c, .slice d.write.a d.write.l.length d.write.c, .slice d.faults.a d.faults.l.length d.faults.c] 74)).alloc (.cells #[.string ⟨#[]⟩, .int .i64 0, .int .u16 0, .slice none 0 0, .slice none 0 0, .slice none 0 0] 77)) where
 low := bon (below_new w _) (below_new _ _)
 lt := by simp
 cells j v hj := by
  have h1 := (below_new (w.alloc (.cells #[.int .u8 (d.kind : Int), .int .u8 2, .int .u8 (d.mode : Int), .slice d.read.a d.read.l.length d.read.c, .slice d.write.a d.write.l.length d.write.c, .slice d.faults.a d.faults.l.length d.faults.c] 74)) (.cells #[.string ⟨#[]⟩, .int .i64 0, .int .u16 0, .slice none 0 0, .slice none 0 0, .slice none 0 0] 77)).cell (p := ⟨w.heap.size, j, none⟩) (by simp)
  have h3 := cell_new w [.int .u8 (d.kind : Int), .int .u8 2, .int .u8 (d.mode : Int), .slice d.read.a d.read.l.length d.read.c, .slice d.write.a d.write.l.length d.write.c, .slice d.faults.a d.faults.l.length d.faults.c] 74 w.heap.size rfl j v hj
  rw [add_off, Nat.zero_add] at h3
  exact h1.trans h3
 res := by
  have h := Vz.new (w.alloc (.cells #[.int .u8 (d.kind : Int), .int .u8 2, .int .u8 (d.mode : Int), .slice d.read.a d.read.l.length d.read.c, .slice d.write.a d.write.l.length d.write.c, .slice d.faults.a d.faults.l.length d.faults.c] 74)) [.string ⟨#[]⟩, .int .i64 0, .int .u16 0, .slice none 0 0, .slice none 0 0, .slice none 0 0] 77
  rw [World.size_alloc] at h
  exact h
set_option maxRecDepth 100000 in
set_option maxHeartbeats 2000000 in
theorem of3_any (d : Dr) (nm : ByteArray) (w : World) (hd : d.mode < 256) (hk : d.kind < 256) (hr1 : Rd w 1 d.read.a d.read.l.length (setC d.read.l)) (hu1 : u16s d.read.l) (hr2 : Rd w 1 d.write.a d.write.l.length (setC d.write.l)) (hu2 : u16s d.write.l) (hr3 : Rd w 2 d.faults.a d.faults.l.length (d.faults.l.flatMap fltC)) : Calls Tryz.prog 23 #[.agg #[.int .u8 (d.kind : Int), .int .u8 2, .int .u8 (d.mode : Int), .slice d.read.a d.read.l.length d.read.c, .slice d.write.a d.write.l.length d.write.c, .slice d.faults.a d.faults.l.length d.faults.c], .string nm] w (RetCfg w) := by
 have HS : Hid (∀ (m : Sl Nat) (W : World) (R : Prop), (m = d.read ∨ m = d.write) → (Below w.heap.size w W ∧ R) → Calls Tryz.prog 54 #[.agg #[.int .u8 (d.kind : Int), .int .u8 2, .int .u8 (d.mode : Int), .slice d.read.a d.read.l.length d.read.c, .slice d.write.a d.write.l.length d.write.c, .slice d.faults.a d.faults.l.length d.faults.c], .slice m.a m.l.length m.c, .int .i64 3] W (Sm W)) := hD (fun m W _ hm hW => by
  rcases hm with rfl | rfl
  · exact sets3_any ⟨d.kind, 2, d.mode, d.read, d.write, d.faults⟩ d.read W (hr1.below hW.1) hu1 hd
  · exact sets3_any ⟨d.kind, 2, d.mode, d.read, d.write, d.faults⟩ d.write W (hr2.below hW.1) hu2 hd)
 have HM : Hid (∀ (W : World), Below w.heap.size w W → Calls Tryz.prog 55 #[.int .i64 3, .slice d.faults.a d.faults.l.length d.faults.c] W (Sm W)) := hD (fun W hW => made3_any _ _ _ W (hr3.below hW))
 have H0 := hD (Of3.new d w)
 clear hr1 hu1 hr2 hu2 hr3
 have c0 := H0.out.cells 1 _ rfl
 have l0 : w.heap.size < (World.heap ((w.alloc (.cells #[.int .u8 (d.kind : Int), .int .u8 2, .int .u8 (d.mode : Int), .slice d.read.a d.read.l.length d.read.c, .slice d.write.a d.write.l.length d.write.c, .slice d.faults.a d.faults.l.length d.faults.c] 74)).alloc (.cells #[.string ⟨#[]⟩, .int .i64 0, .int .u16 0, .slice none 0 0, .slice none 0 0, .slice none 0 0] 77))).size := by have := H0.out.lt; omega
 have k0 : (0 : Int) ≤ (d.kind : Int) := by omega
 have k1 : (d.kind : Int) < 256 := by omega
 go_enter Tryz.func23, Tryz.ntmps23
 go_upto_region 2 with fail
 clear c0 l0
 refine wp_region_noPanic ?_
 have HX : Hid (Of3 d w ((w.alloc (.cells #[.int .u8 (d.kind : Int), .int .u8 2, .int .u8 (d.mode : Int), .slice d.read.a d.read.l.length d.read.c, .slice d.write.a d.write.l.length d.write.c, .slice d.faults.a d.faults.l.length d.faults.c] 74)).alloc (.cells #[.string ⟨#[]⟩, .int .i64 0, .int .u16 0, .slice none 0 0, .slice none 0 0, .slice none 0 0] 77)).drew) := hD (H0.out.below (Below.refl _ _).drew)
 generalize hv : ((w.alloc (.cells #[.int .u8 (d.kind : Int), .int .u8 2, .int .u8 (d.mode : Int), .slice d.read.a d.read.l.length d.read.c, .slice d.write.a d.write.l.length d.write.c, .slice d.faults.a d.faults.l.length d.faults.c] 74)).alloc (.cells #[.string ⟨#[]⟩, .int .i64 0, .int .u16 0, .slice none 0 0, .slice none 0 0, .slice none 0 0] 77)).drew = v0 at HX
 have hS0 : Below w.heap.size w v0 ∧ w.heap.size + 1 < (World.heap v0).size ∧ World.cell? v0 ⟨w.heap.size, 0, none⟩ = some (.int .u8 (d.kind : Int)) ∧ World.cell? v0 ⟨w.heap.size, 1, none⟩ = some (.int .u8 2) ∧ World.cell? v0 ⟨w.heap.size, 2, none⟩ = some (.int .u8 (d.mode : Int)) ∧ World.cell? v0 ⟨w.heap.size, 3, none⟩ = some (.slice d.read.a d.read.l.length d.read.c) ∧ World.cell? v0 ⟨w.heap.size, 4, none⟩ = some (.slice d.write.a d.write.l.length d.write.c) ∧ World.cell? v0 ⟨w.heap.size, 5, none⟩ = some (.slice d.faults.a d.faults.l.length d.faults.c) := ⟨HX.out.1, HX.out.2, HX.out.3 0 _ rfl, HX.out.3 1 _ rfl, HX.out.3 2 _ rfl, HX.out.3 3 _ rfl, HX.out.3 4 _ rfl, HX.out.3 5 _ rfl⟩
 refine wp_region_held_drew (S := fun W => Below w.heap.size w W ∧ w.heap.size + 1 < (World.heap W).size ∧ World.cell? W ⟨w.heap.size, 0, none⟩ = some (.int .u8 (d.kind : Int)) ∧ World.cell? W ⟨w.heap.size, 1, none⟩ = some (.int .u8 2) ∧ World.cell? W ⟨w.heap.size, 2, none⟩ = some (.int .u8 (d.mode : Int)) ∧ World.cell? W ⟨w.heap.size, 3, none⟩ = some (.slice d.read.a d.read.l.length d.read.c) ∧ World.cell? W ⟨w.heap.size, 4, none⟩ = some (.slice d.write.a d.write.l.length d.write.c) ∧ World.cell? W ⟨w.heap.size, 5, none⟩ = some (.slice d.faults.a d.faults.l.length d.faults.c)) (by kernel_rfl) (by rw [hv]; exact hS0) (fun hHeld => ?_)
 rw [hv] at hHeld ⊢
 clear hv
 refine takes [0,1,2,3,4,5,6,7,8,9,10,11,12,14,15,16,17] ?_
 refine wpAnyH_ready (rs := [13, 20]) (by kernel_rfl) (by simp) ?_
 refine AllReadyH.cons (o := _) rfl (fun K hK => ?_) (AllReadyH.cons (o := _) rfl (fun K hK => ?_) AllReadyH.nil)
 · go_simp
   go_at_call 54
   refine (HS.out d.read _ _ (.inl rfl) (by assumption)).mono ?_
   rintro e v1 ⟨⟨Ra, Rn, Rc, rfl⟩, hs⟩
   have HX := hD (HX.out.below hs)
   clear hs
   go_wp2_with fail
   have hS1 : Below w.heap.size w v1 ∧ w.heap.size + 1 < (World.heap v1).size ∧ World.cell? v1 ⟨w.heap.size, 0, none⟩ = some (.int .u8 (d.kind : Int)) ∧ World.cell? v1 ⟨w.heap.size, 1, none⟩ = some (.int .u8 2) ∧ World.cell? v1 ⟨w.heap.size, 2, none⟩ = some (.int .u8 (d.mode : Int)) ∧ World.cell? v1 ⟨w.heap.size, 3, none⟩ = some (.slice d.read.a d.read.l.length d.read.c) ∧ World.cell? v1 ⟨w.heap.size, 4, none⟩ = some (.slice d.write.a d.write.l.length d.write.c) ∧ World.cell? v1 ⟨w.heap.size, 5, none⟩ = some (.slice d.faults.a d.faults.l.length d.faults.c) := ⟨HX.out.1, HX.out.2, HX.out.3 0 _ rfl, HX.out.3 1 _ rfl, HX.out.3 2 _ rfl, HX.out.3 3 _ rfl, HX.out.3 4 _ rfl, HX.out.3 5 _ rfl⟩
   refine hK.out _ _ hS1 (fun hHeld => ?_)
   clear hK K
   try simp only [Act.put,qk1,qk2,qk3,qk4,qk5,qk6]
   refine wpAnyH_ready (rs := [18, 20]) (by kernel_rfl) (by simp) ?_
   refine AllReadyH.cons (o := _) rfl (fun K hK => ?_) (AllReadyH.cons (o := _) rfl (fun K hK => ?_) AllReadyH.nil)
   · go_simp
     go_at_call 54
     refine (HS.out d.write _ _ (.inr rfl) (by assumption)).mono ?_
     rintro e v2 ⟨⟨Wa, Wn, Wc, rfl⟩, hs⟩
     have HX := hD (HX.out.below hs)
     clear hs
     go_wp2_with fail
     have hS2 : Below w.heap.size w v2 ∧ w.heap.size + 1 < (World.heap v2).size ∧ World.cell? v2 ⟨w.heap.size, 0, none⟩ = some (.int .u8 (d.kind : Int)) ∧ World.cell? v2 ⟨w.heap.size, 1, none⟩ = some (.int .u8 2) ∧ World.cell? v2 ⟨w.heap.size, 2, none⟩ = some (.int .u8 (d.mode : Int)) ∧ World.cell? v2 ⟨w.heap.size, 3, none⟩ = some (.slice d.read.a d.read.l.length d.read.c) ∧ World.cell? v2 ⟨w.heap.size, 4, none⟩ = some (.slice d.write.a d.write.l.length d.write.c) ∧ World.cell? v2 ⟨w.heap.size, 5, none⟩ = some (.slice d.faults.a d.faults.l.length d.faults.c) := ⟨HX.out.1, HX.out.2, HX.out.3 0 _ rfl, HX.out.3 1 _ rfl, HX.out.3 2 _ rfl, HX.out.3 3 _ rfl, HX.out.3 4 _ rfl, HX.out.3 5 _ rfl⟩
     refine hK.out _ _ hS2 (fun hHeld => ?_)
     clear hK K
     try simp only [Act.put,qk1,qk2,qk3,qk4,qk5,qk6]
     refine takes [19] ?_
     refine tkr 20 rfl (fun K hK => ?_)
     go_simp
     have HGw : Hid (w.heap.size + 1 < (World.heap v2).size) := hD HX.out.lt
     have HG : Hid (Vz (World.alloc v2 (.cells #[.string ⟨#[]⟩, .int .i64 0, .int .u16 0, .slice none 0 0, .slice none 0 0, .slice none 0 0] 77)) (World.heap v2).size [.string ⟨#[]⟩, .int .i64 0, .int .u16 0, .slice none 0 0, .slice none 0 0, .slice none 0 0]) := hD (Vz.new v2 [.string ⟨#[]⟩, .int .i64 0, .int .u16 0, .slice none 0 0, .slice none 0 0, .slice none 0 0] 77)
     have HX := hD (HX.out.below (below_new v2 (.cells #[.string ⟨#[]⟩, .int .i64 0, .int .u16 0, .slice none 0 0, .slice none 0 0, .slice none 0 0] 77)))
     generalize World.alloc v2 (.cells #[.string ⟨#[]⟩, .int .i64 0, .int .u16 0, .slice none 0 0, .slice none 0 0, .slice none 0 0] 77) = v3 at HG HX ⊢
     generalize (World.heap v2).size = g at HG HGw ⊢
     have hS3 : Below w.heap.size w v3 ∧ w.heap.size + 1 < (World.heap v3).size ∧ World.cell? v3 ⟨w.heap.size, 0, none⟩ = some (.int .u8 (d.kind : Int)) ∧ World.cell? v3 ⟨w.heap.size, 1, none⟩ = some (.int .u8 2) ∧ World.cell? v3 ⟨w.heap.size, 2, none⟩ = some (.int .u8 (d.mode : Int)) ∧ World.cell? v3 ⟨w.heap.size, 3, none⟩ = some (.slice d.read.a d.read.l.length d.read.c) ∧ World.cell? v3 ⟨w.heap.size, 4, none⟩ = some (.slice d.write.a d.write.l.length d.write.c) ∧ World.cell? v3 ⟨w.heap.size, 5, none⟩ = some (.slice d.faults.a d.faults.l.length d.faults.c) := ⟨HX.out.1, HX.out.2, HX.out.3 0 _ rfl, HX.out.3 1 _ rfl, HX.out.3 2 _ rfl, HX.out.3 3 _ rfl, HX.out.3 4 _ rfl, HX.out.3 5 _ rfl⟩
     refine hK.out _ _ hS3 (fun hHeld => ?_)
     clear hK K
     try simp only [Act.put,qk1,qk2,qk3,qk4,qk5,qk6]
     generalize IntKind.i64.wrap (1 + IntKind.i64.wrap ((d.kind : Int).tmod 2)) = KK
     generalize IntKind.u16.wrap (IntKind.u16.wrap 8 - 1) = MM
     have z0 := HG.out.cells 0 _ rfl
     have z1 := HG.out.cells 1 _ rfl
     have z2 := HG.out.cells 2 _ rfl
     have z3 := HG.out.cells 3 _ rfl
     have z4 := HG.out.cells 4 _ rfl
     have z5 := HG.out.cells 5 _ rfl
     have f0 := HG.out.free 0 (by decide)
     have f1 := HG.out.free 1 (by decide)
     have f2 := HG.out.free 2 (by decide)
     have f3 := HG.out.free 3 (by decide)
     have f4 := HG.out.free 4 (by decide)
     have f5 := HG.out.free 5 (by decide)
     have lg := HG.out.lt
     refine tkr 21 rfl (fun K hK => ?_)
     go_simp
     have HX := hD ((((((HX.out.set HGw.out 0 (.string nm)).set HGw.out 1 (.int .i64 KK)).set HGw.out 2 (.int .u16 MM)).set HGw.out 3 (.slice Ra Rn Rc)).set HGw.out 4 (.slice Wa Wn Wc)).set HGw.out 5 (.slice none 0 0))
     have HG : Hid (Vz (World.setCell (World.setCell (World.setCell (World.setCell (World.setCell (World.setCell v3 ⟨g, 0, none⟩ (.string nm)) ⟨g, 1, none⟩ (.int .i64 KK)) ⟨g, 2, none⟩ (.int .u16 MM)) ⟨g, 3, none⟩ (.slice Ra Rn Rc)) ⟨g, 4, none⟩ (.slice Wa Wn Wc)) ⟨g, 5, none⟩ (.slice none 0 0)) g [.string nm, .int .i64 KK, .int .u16 MM, .slice Ra Rn Rc, .slice Wa Wn Wc, .slice none 0 0]) := hD (((((((HG.out.set 0 (.string nm)).set 1 (.int .i64 KK)).set 2 (.int .u16 MM)).set 3 (.slice Ra Rn Rc)).set 4 (.slice Wa Wn Wc)).set 5 (.slice none 0 0)).eq rfl)
     clear z0 z1 z2 z3 z4 z5 f0 f1 f2 f3 f4 f5 lg
     generalize (World.setCell (World.setCell (World.setCell (World.setCell (World.setCell (World.setCell v3 ⟨g, 0, none⟩ (.string nm)) ⟨g, 1, none⟩ (.int .i64 KK)) ⟨g, 2, none⟩ (.int .u16 MM)) ⟨g, 3, none⟩ (.slice Ra Rn Rc)) ⟨g, 4, none⟩ (.slice Wa Wn Wc)) ⟨g, 5, none⟩ (.slice none 0 0)) = v4 at HX HG ⊢
     have hS4 : Below w.heap.size w v4 ∧ w.heap.size + 1 < (World.heap v4).size ∧ World.cell? v4 ⟨w.heap.size, 0, none⟩ = some (.int .u8 (d.kind : Int)) ∧ World.cell? v4 ⟨w.heap.size, 1, none⟩ = some (.int .u8 2) ∧ World.cell? v4 ⟨w.heap.size, 2, none⟩ = some (.int .u8 (d.mode : Int)) ∧ World.cell? v4 ⟨w.heap.size, 3, none⟩ = some (.slice d.read.a d.read.l.length d.read.c) ∧ World.cell? v4 ⟨w.heap.size, 4, none⟩ = some (.slice d.write.a d.write.l.length d.write.c) ∧ World.cell? v4 ⟨w.heap.size, 5, none⟩ = some (.slice d.faults.a d.faults.l.length d.faults.c) := ⟨HX.out.1, HX.out.2, HX.out.3 0 _ rfl, HX.out.3 1 _ rfl, HX.out.3 2 _ rfl, HX.out.3 3 _ rfl, HX.out.3 4 _ rfl, HX.out.3 5 _ rfl⟩
     refine hK.out _ _ hS4 (fun hHeld => ?_)
     clear hK K
     try simp only [Act.put,qk1,qk2,qk3,qk4,qk5,qk6]
     refine wpAnyH_done (by kernel_rfl) ?_ _
     refine NoPanic.normal ?_
     clear hS0 hS1 hS2 hS3 hS4 hHeld
     have b5 := HX.out.cells 5 _ rfl
     have bl : w.heap.size < (World.heap v4).size := by have := HX.out.lt; omega
     go_wp2_with fail
     refine (HM.out _ HX.out.low).mono ?_
     rintro e v5 ⟨⟨Fa, Fn, Fc, rfl⟩, hs⟩
     have HX := hD (HX.out.below hs)
     have HG := hD (HG.out.below hs)
     clear hs b5 bl
     have z0 := HG.out.cells 0 _ rfl
     have z1 := HG.out.cells 1 _ rfl
     have z2 := HG.out.cells 2 _ rfl
     have z3 := HG.out.cells 3 _ rfl
     have z4 := HG.out.cells 4 _ rfl
     have z5 := HG.out.cells 5 _ rfl
     have y0 := HX.out.res.cells 0 _ rfl
     have y1 := HX.out.res.cells 1 _ rfl
     have y2 := HX.out.res.cells 2 _ rfl
     have y3 := HX.out.res.cells 3 _ rfl
     have y4 := HX.out.res.cells 4 _ rfl
     have y5 := HX.out.res.cells 5 _ rfl
     have e0 := HX.out.res.free 0 (by decide)
     have e1 := HX.out.res.free 1 (by decide)
     have e2 := HX.out.res.free 2 (by decide)
     have e3 := HX.out.res.free 3 (by decide)
     have e4 := HX.out.res.free 4 (by decide)
     have e5 := HX.out.res.free 5 (by decide)
     have f5 := HG.out.free 5 (by simp)
     have lg := HG.out.lt
     have lr := HX.out.res.lt
     have hne : g ≠ w.heap.size + 1 := by have := HGw.out; omega
     have hne2 : w.heap.size + 1 ≠ g := by have := HGw.out; omega
     go_wp2_with fail
     refine bodyPost_ret (v := .agg #[.string nm, .int .i64 KK, .int .u16 MM, .slice Ra Rn Rc, .slice Wa Wn Wc, .slice Fa Fn Fc]) (by simp [results, Tryz.results23, go_sem, y0, y1, y2, y3, y4, y5]) rfl ⟨⟨nm, KK, MM, Ra, Wa, Fa, Rn, Rc, Wn, Wc, Fn, Fc, rfl⟩, ?_⟩
     have hlow := HX.out.low.setCell (p := ⟨g, 5, none⟩) (by show w.heap.size ≤ g; have := HGw.out; omega) (.slice Fa Fn Fc)
     exact (((((hlow.setCell (by show w.heap.size ≤ w.heap.size + 1; omega) _).setCell (by show w.heap.size ≤ w.heap.size + 1; omega) _).setCell (by show w.heap.size ≤ w.heap.size + 1; omega) _).setCell (by show w.heap.size ≤ w.heap.size + 1; omega) _).setCell (by show w.heap.size ≤ w.heap.size + 1; omega) _).setCell (by show w.heap.size ≤ w.heap.size + 1; omega) _
   · go_simp
     have HGw : Hid (w.heap.size + 1 < (World.heap v1).size) := hD HX.out.lt
     have HG : Hid (Vz (World.alloc v1 (.cells #[.string ⟨#[]⟩, .int .i64 0, .int .u16 0, .slice none 0 0, .slice none 0 0, .slice none 0 0] 77)) (World.heap v1).size [.string ⟨#[]⟩, .int .i64 0, .int .u16 0, .slice none 0 0, .slice none 0 0, .slice none 0 0]) := hD (Vz.new v1 [.string ⟨#[]⟩, .int .i64 0, .int .u16 0, .slice none 0 0, .slice none 0 0, .slice none 0 0] 77)
     have HX := hD (HX.out.below (below_new v1 (.cells #[.string ⟨#[]⟩, .int .i64 0, .int .u16 0, .slice none 0 0, .slice none 0 0, .slice none 0 0] 77)))
     generalize World.alloc v1 (.cells #[.string ⟨#[]⟩, .int .i64 0, .int .u16 0, .slice none 0 0, .slice none 0 0, .slice none 0 0] 77) = v2 at HG HX ⊢
     generalize (World.heap v1).size = g at HG HGw ⊢
     have hS2 : Below w.heap.size w v2 ∧ w.heap.size + 1 < (World.heap v2).size ∧ World.cell? v2 ⟨w.heap.size, 0, none⟩ = some (.int .u8 (d.kind : Int)) ∧ World.cell? v2 ⟨w.heap.size, 1, none⟩ = some (.int .u8 2) ∧ World.cell? v2 ⟨w.heap.size, 2, none⟩ = some (.int .u8 (d.mode : Int)) ∧ World.cell? v2 ⟨w.heap.size, 3, none⟩ = some (.slice d.read.a d.read.l.length d.read.c) ∧ World.cell? v2 ⟨w.heap.size, 4, none⟩ = some (.slice d.write.a d.write.l.length d.write.c) ∧ World.cell? v2 ⟨w.heap.size, 5, none⟩ = some (.slice d.faults.a d.faults.l.length d.faults.c) := ⟨HX.out.1, HX.out.2, HX.out.3 0 _ rfl, HX.out.3 1 _ rfl, HX.out.3 2 _ rfl, HX.out.3 3 _ rfl, HX.out.3 4 _ rfl, HX.out.3 5 _ rfl⟩
     refine hK.out _ _ hS2 (fun hHeld => ?_)
     clear hK K
     try simp only [Act.put,qk1,qk2,qk3,qk4,qk5,qk6]
     refine tkr 18 rfl (fun K hK => ?_)
     go_simp
     go_at_call 54
     refine (HS.out d.write _ _ (.inr rfl) (by assumption)).mono ?_
     rintro e v3 ⟨⟨Wa, Wn, Wc, rfl⟩, hs⟩
     have HX := hD (HX.out.below hs)
     have HG := hD (HG.out.below hs)
     clear hs
     go_wp2_with fail
     have hS3 : Below w.heap.size w v3 ∧ w.heap.size + 1 < (World.heap v3).size ∧ World.cell? v3 ⟨w.heap.size, 0, none⟩ = some (.int .u8 (d.kind : Int)) ∧ World.cell? v3 ⟨w.heap.size, 1, none⟩ = some (.int .u8 2) ∧ World.cell? v3 ⟨w.heap.size, 2, none⟩ = some (.int .u8 (d.mode : Int)) ∧ World.cell? v3 ⟨w.heap.size, 3, none⟩ = some (.slice d.read.a d.read.l.length d.read.c) ∧ World.cell? v3 ⟨w.heap.size, 4, none⟩ = some (.slice d.write.a d.write.l.length d.write.c) ∧ World.cell? v3 ⟨w.heap.size, 5, none⟩ = some (.slice d.faults.a d.faults.l.length d.faults.c) := ⟨HX.out.1, HX.out.2, HX.out.3 0 _ rfl, HX.out.3 1 _ rfl, HX.out.3 2 _ rfl, HX.out.3 3 _ rfl, HX.out.3 4 _ rfl, HX.out.3 5 _ rfl⟩
     refine hK.out _ _ hS3 (fun hHeld => ?_)
     clear hK K
     try simp only [Act.put,qk1,qk2,qk3,qk4,qk5,qk6]
     refine takes [19] ?_
     generalize IntKind.i64.wrap (1 + IntKind.i64.wrap ((d.kind : Int).tmod 2)) = KK
     generalize IntKind.u16.wrap (IntKind.u16.wrap 8 - 1) = MM
     have z0 := HG.out.cells 0 _ rfl
     have z1 := HG.out.cells 1 _ rfl
     have z2 := HG.out.cells 2 _ rfl
     have z3 := HG.out.cells 3 _ rfl
     have z4 := HG.out.cells 4 _ rfl
     have z5 := HG.out.cells 5 _ rfl
     have f0 := HG.out.free 0 (by decide)
     have f1 := HG.out.free 1 (by decide)
     have f2 := HG.out.free 2 (by decide)
     have f3 := HG.out.free 3 (by decide)
     have f4 := HG.out.free 4 (by decide)
     have f5 := HG.out.free 5 (by decide)
     have lg := HG.out.lt
     refine tkr 21 rfl (fun K hK => ?_)
     go_simp
     have HX := hD ((((((HX.out.set HGw.out 0 (.string nm)).set HGw.out 1 (.int .i64 KK)).set HGw.out 2 (.int .u16 MM)).set HGw.out 3 (.slice Ra Rn Rc)).set HGw.out 4 (.slice Wa Wn Wc)).set HGw.out 5 (.slice none 0 0))
     have HG : Hid (Vz (World.setCell (World.setCell (World.setCell (World.setCell (World.setCell (World.setCell v3 ⟨g, 0, none⟩ (.string nm)) ⟨g, 1, none⟩ (.int .i64 KK)) ⟨g, 2, none⟩ (.int .u16 MM)) ⟨g, 3, none⟩ (.slice Ra Rn Rc)) ⟨g, 4, none⟩ (.slice Wa Wn Wc)) ⟨g, 5, none⟩ (.slice none 0 0)) g [.string nm, .int .i64 KK, .int .u16 MM, .slice Ra Rn Rc, .slice Wa Wn Wc, .slice none 0 0]) := hD (((((((HG.out.set 0 (.string nm)).set 1 (.int .i64 KK)).set 2 (.int .u16 MM)).set 3 (.slice Ra Rn Rc)).set 4 (.slice Wa Wn Wc)).set 5 (.slice none 0 0)).eq rfl)
     clear z0 z1 z2 z3 z4 z5 f0 f1 f2 f3 f4 f5 lg
     generalize (World.setCell (World.setCell (World.setCell (World.setCell (World.setCell (World.setCell v3 ⟨g, 0, none⟩ (.string nm)) ⟨g, 1, none⟩ (.int .i64 KK)) ⟨g, 2, none⟩ (.int .u16 MM)) ⟨g, 3, none⟩ (.slice Ra Rn Rc)) ⟨g, 4, none⟩ (.slice Wa Wn Wc)) ⟨g, 5, none⟩ (.slice none 0 0)) = v4 at HX HG ⊢
     have hS4 : Below w.heap.size w v4 ∧ w.heap.size + 1 < (World.heap v4).size ∧ World.cell? v4 ⟨w.heap.size, 0, none⟩ = some (.int .u8 (d.kind : Int)) ∧ World.cell? v4 ⟨w.heap.size, 1, none⟩ = some (.int .u8 2) ∧ World.cell? v4 ⟨w.heap.size, 2, none⟩ = some (.int .u8 (d.mode : Int)) ∧ World.cell? v4 ⟨w.heap.size, 3, none⟩ = some (.slice d.read.a d.read.l.length d.read.c) ∧ World.cell? v4 ⟨w.heap.size, 4, none⟩ = some (.slice d.write.a d.write.l.length d.write.c) ∧ World.cell? v4 ⟨w.heap.size, 5, none⟩ = some (.slice d.faults.a d.faults.l.length d.faults.c) := ⟨HX.out.1, HX.out.2, HX.out.3 0 _ rfl, HX.out.3 1 _ rfl, HX.out.3 2 _ rfl, HX.out.3 3 _ rfl, HX.out.3 4 _ rfl, HX.out.3 5 _ rfl⟩
     refine hK.out _ _ hS4 (fun hHeld => ?_)
     clear hK K
     try simp only [Act.put,qk1,qk2,qk3,qk4,qk5,qk6]
     refine wpAnyH_done (by kernel_rfl) ?_ _
     refine NoPanic.normal ?_
     clear hS0 hS1 hS2 hS3 hS4 hHeld
     have b5 := HX.out.cells 5 _ rfl
     have bl : w.heap.size < (World.heap v4).size := by have := HX.out.lt; omega
     go_wp2_with fail
     refine (HM.out _ HX.out.low).mono ?_
     rintro e v5 ⟨⟨Fa, Fn, Fc, rfl⟩, hs⟩
     have HX := hD (HX.out.below hs)
     have HG := hD (HG.out.below hs)
     clear hs b5 bl
     have z0 := HG.out.cells 0 _ rfl
     have z1 := HG.out.cells 1 _ rfl
     have z2 := HG.out.cells 2 _ rfl
     have z3 := HG.out.cells 3 _ rfl
     have z4 := HG.out.cells 4 _ rfl
     have z5 := HG.out.cells 5 _ rfl
     have y0 := HX.out.res.cells 0 _ rfl
     have y1 := HX.out.res.cells 1 _ rfl
     have y2 := HX.out.res.cells 2 _ rfl
     have y3 := HX.out.res.cells 3 _ rfl
     have y4 := HX.out.res.cells 4 _ rfl
     have y5 := HX.out.res.cells 5 _ rfl
     have e0 := HX.out.res.free 0 (by decide)
     have e1 := HX.out.res.free 1 (by decide)
     have e2 := HX.out.res.free 2 (by decide)
     have e3 := HX.out.res.free 3 (by decide)
     have e4 := HX.out.res.free 4 (by decide)
     have e5 := HX.out.res.free 5 (by decide)
     have f5 := HG.out.free 5 (by simp)
     have lg := HG.out.lt
     have lr := HX.out.res.lt
     have hne : g ≠ w.heap.size + 1 := by have := HGw.out; omega
     have hne2 : w.heap.size + 1 ≠ g := by have := HGw.out; omega
     go_wp2_with fail
     refine bodyPost_ret (v := .agg #[.string nm, .int .i64 KK, .int .u16 MM, .slice Ra Rn Rc, .slice Wa Wn Wc, .slice Fa Fn Fc]) (by simp [results, Tryz.results23, go_sem, y0, y1, y2, y3, y4, y5]) rfl ⟨⟨nm, KK, MM, Ra, Wa, Fa, Rn, Rc, Wn, Wc, Fn, Fc, rfl⟩, ?_⟩
     have hlow := HX.out.low.setCell (p := ⟨g, 5, none⟩) (by show w.heap.size ≤ g; have := HGw.out; omega) (.slice Fa Fn Fc)
     exact (((((hlow.setCell (by show w.heap.size ≤ w.heap.size + 1; omega) _).setCell (by show w.heap.size ≤ w.heap.size + 1; omega) _).setCell (by show w.heap.size ≤ w.heap.size + 1; omega) _).setCell (by show w.heap.size ≤ w.heap.size + 1; omega) _).setCell (by show w.heap.size ≤ w.heap.size + 1; omega) _).setCell (by show w.heap.size ≤ w.heap.size + 1; omega) _
 · go_simp
   have HGw : Hid (w.heap.size + 1 < (World.heap v0).size) := hD HX.out.lt
   have HG : Hid (Vz (World.alloc v0 (.cells #[.string ⟨#[]⟩, .int .i64 0, .int .u16 0, .slice none 0 0, .slice none 0 0, .slice none 0 0] 77)) (World.heap v0).size [.string ⟨#[]⟩, .int .i64 0, .int .u16 0, .slice none 0 0, .slice none 0 0, .slice none 0 0]) := hD (Vz.new v0 [.string ⟨#[]⟩, .int .i64 0, .int .u16 0, .slice none 0 0, .slice none 0 0, .slice none 0 0] 77)
   have HX := hD (HX.out.below (below_new v0 (.cells #[.string ⟨#[]⟩, .int .i64 0, .int .u16 0, .slice none 0 0, .slice none 0 0, .slice none 0 0] 77)))
   generalize World.alloc v0 (.cells #[.string ⟨#[]⟩, .int .i64 0, .int .u16 0, .slice none 0 0, .slice none 0 0, .slice none 0 0] 77) = v1 at HG HX ⊢
   generalize (World.heap v0).size = g at HG HGw ⊢
   have hS1 : Below w.heap.size w v1 ∧ w.heap.size + 1 < (World.heap v1).size ∧ World.cell? v1 ⟨w.heap.size, 0, none⟩ = some (.int .u8 (d.kind : Int)) ∧ World.cell? v1 ⟨w.heap.size, 1, none⟩ = some (.int .u8 2) ∧ World.cell? v1 ⟨w.heap.size, 2, none⟩ = some (.int .u8 (d.mode : Int)) ∧ World.cell? v1 ⟨w.heap.size, 3, none⟩ = some (.slice d.read.a d.read.l.length d.read.c) ∧ World.cell? v1 ⟨w.heap.size, 4, none⟩ = some (.slice d.write.a d.write.l.length d.write.c) ∧ World.cell? v1 ⟨w.heap.size, 5, none⟩ = some (.slice d.faults.a d.faults.l.length d.faults.c) := ⟨HX.out.1, HX.out.2, HX.out.3 0 _ rfl, HX.out.3 1 _ rfl, HX.out.3 2 _ rfl, HX.out.3 3 _ rfl, HX.out.3 4 _ rfl, HX.out.3 5 _ rfl⟩
   refine hK.out _ _ hS1 (fun hHeld => ?_)
   clear hK K
   try simp only [Act.put,qk1,qk2,qk3,qk4,qk5,qk6]
   refine tkr 13 rfl (fun K hK => ?_)
   go_simp
   go_at_call 54
   refine (HS.out d.read _ _ (.inl rfl) (by assumption)).mono ?_
   rintro e v2 ⟨⟨Ra, Rn, Rc, rfl⟩, hs⟩
   have HX := hD (HX.out.below hs)
   have HG := hD (HG.out.below hs)
   clear hs
   go_wp2_with fail
   have hS2 : Below w.heap.size w v2 ∧ w.heap.size + 1 < (World.heap v2).size ∧ World.cell? v2 ⟨w.heap.size, 0, none⟩ = some (.int .u8 (d.kind : Int)) ∧ World.cell? v2 ⟨w.heap.size, 1, none⟩ = some (.int .u8 2) ∧ World.cell? v2 ⟨w.heap.size, 2, none⟩ = some (.int .u8 (d.mode : Int)) ∧ World.cell? v2 ⟨w.heap.size, 3, none⟩ = some (.slice d.read.a d.read.l.length d.read.c) ∧ World.cell? v2 ⟨w.heap.size, 4, none⟩ = some (.slice d.write.a d.write.l.length d.write.c) ∧ World.cell? v2 ⟨w.heap.size, 5, none⟩ = some (.slice d.faults.a d.faults.l.length d.faults.c) := ⟨HX.out.1, HX.out.2, HX.out.3 0 _ rfl, HX.out.3 1 _ rfl, HX.out.3 2 _ rfl, HX.out.3 3 _ rfl, HX.out.3 4 _ rfl, HX.out.3 5 _ rfl⟩
   refine hK.out _ _ hS2 (fun hHeld => ?_)
   clear hK K
   try simp only [Act.put,qk1,qk2,qk3,qk4,qk5,qk6]
   refine tkr 18 rfl (fun K hK => ?_)
   go_simp
   go_at_call 54
   refine (HS.out d.write _ _ (.inr rfl) (by assumption)).mono ?_
   rintro e v3 ⟨⟨Wa, Wn, Wc, rfl⟩, hs⟩
   have HX := hD (HX.out.below hs)
   have HG := hD (HG.out.below hs)
   clear hs
   go_wp2_with fail
   have hS3 : Below w.heap.size w v3 ∧ w.heap.size + 1 < (World.heap v3).size ∧ World.cell? v3 ⟨w.heap.size, 0, none⟩ = some (.int .u8 (d.kind : Int)) ∧ World.cell? v3 ⟨w.heap.size, 1, none⟩ = some (.int .u8 2) ∧ World.cell? v3 ⟨w.heap.size, 2, none⟩ = some (.int .u8 (d.mode : Int)) ∧ World.cell? v3 ⟨w.heap.size, 3, none⟩ = some (.slice d.read.a d.read.l.length d.read.c) ∧ World.cell? v3 ⟨w.heap.size, 4, none⟩ = some (.slice d.write.a d.write.l.length d.write.c) ∧ World.cell? v3 ⟨w.heap.size, 5, none⟩ = some (.slice d.faults.a d.faults.l.length d.faults.c) := ⟨HX.out.1, HX.out.2, HX.out.3 0 _ rfl, HX.out.3 1 _ rfl, HX.out.3 2 _ rfl, HX.out.3 3 _ rfl, HX.out.3 4 _ rfl, HX.out.3 5 _ rfl⟩
   refine hK.out _ _ hS3 (fun hHeld => ?_)
   clear hK K
   try simp only [Act.put,qk1,qk2,qk3,qk4,qk5,qk6]
   refine takes [19] ?_
   generalize IntKind.i64.wrap (1 + IntKind.i64.wrap ((d.kind : Int).tmod 2)) = KK
   generalize IntKind.u16.wrap (IntKind.u16.wrap 8 - 1) = MM
   have z0 := HG.out.cells 0 _ rfl
   have z1 := HG.out.cells 1 _ rfl
   have z2 := HG.out.cells 2 _ rfl
   have z3 := HG.out.cells 3 _ rfl
   have z4 := HG.out.cells 4 _ rfl
   have z5 := HG.out.cells 5 _ rfl
   have f0 := HG.out.free 0 (by decide)
   have f1 := HG.out.free 1 (by decide)
   have f2 := HG.out.free 2 (by decide)
   have f3 := HG.out.free 3 (by decide)
   have f4 := HG.out.free 4 (by decide)
   have f5 := HG.out.free 5 (by decide)
   have lg := HG.out.lt
   refine tkr 21 rfl (fun K hK => ?_)
   go_simp
   have HX := hD ((((((HX.out.set HGw.out 0 (.string nm)).set HGw.out 1 (.int .i64 KK)).set HGw.out 2 (.int .u16 MM)).set HGw.out 3 (.slice Ra Rn Rc)).set HGw.out 4 (.slice Wa Wn Wc)).set HGw.out 5 (.slice none 0 0))
   have HG : Hid (Vz (World.setCell (World.setCell (World.setCell (World.setCell (World.setCell (World.setCell v3 ⟨g, 0, none⟩ (.string nm)) ⟨g, 1, none⟩ (.int .i64 KK)) ⟨g, 2, none⟩ (.int .u16 MM)) ⟨g, 3, none⟩ (.slice Ra Rn Rc)) ⟨g, 4, none⟩ (.slice Wa Wn Wc)) ⟨g, 5, none⟩ (.slice none 0 0)) g [.string nm, .int .i64 KK, .int .u16 MM, .slice Ra Rn Rc, .slice Wa Wn Wc, .slice none 0 0]) := hD (((((((HG.out.set 0 (.string nm)).set 1 (.int .i64 KK)).set 2 (.int .u16 MM)).set 3 (.slice Ra Rn Rc)).set 4 (.slice Wa Wn Wc)).set 5 (.slice none 0 0)).eq rfl)
   clear z0 z1 z2 z3 z4 z5 f0 f1 f2 f3 f4 f5 lg
   generalize (World.setCell (World.setCell (World.setCell (World.setCell (World.setCell (World.setCell v3 ⟨g, 0, none⟩ (.string nm)) ⟨g, 1, none⟩ (.int .i64 KK)) ⟨g, 2, none⟩ (.int .u16 MM)) ⟨g, 3, none⟩ (.slice Ra Rn Rc)) ⟨g, 4, none⟩ (.slice Wa Wn Wc)) ⟨g, 5, none⟩ (.slice none 0 0)) = v4 at HX HG ⊢
   have hS4 : Below w.heap.size w v4 ∧ w.heap.size + 1 < (World.heap v4).size ∧ World.cell? v4 ⟨w.heap.size, 0, none⟩ = some (.int .u8 (d.kind : Int)) ∧ World.cell? v4 ⟨w.heap.size, 1, none⟩ = some (.int .u8 2) ∧ World.cell? v4 ⟨w.heap.size, 2, none⟩ = some (.int .u8 (d.mode : Int)) ∧ World.cell? v4 ⟨w.heap.size, 3, none⟩ = some (.slice d.read.a d.read.l.length d.read.c) ∧ World.cell? v4 ⟨w.heap.size, 4, none⟩ = some (.slice d.write.a d.write.l.length d.write.c) ∧ World.cell? v4 ⟨w.heap.size, 5, none⟩ = some (.slice d.faults.a d.faults.l.length d.faults.c) := ⟨HX.out.1, HX.out.2, HX.out.3 0 _ rfl, HX.out.3 1 _ rfl, HX.out.3 2 _ rfl, HX.out.3 3 _ rfl, HX.out.3 4 _ rfl, HX.out.3 5 _ rfl⟩
   refine hK.out _ _ hS4 (fun hHeld => ?_)
   clear hK K
   try simp only [Act.put,qk1,qk2,qk3,qk4,qk5,qk6]
   refine wpAnyH_done (by kernel_rfl) ?_ _
   refine NoPanic.normal ?_
   clear hS0 hS1 hS2 hS3 hS4 hHeld
   have b5 := HX.out.cells 5 _ rfl
   have bl : w.heap.size < (World.heap v4).size := by have := HX.out.lt; omega
   go_wp2_with fail
   refine (HM.out _ HX.out.low).mono ?_
   rintro e v5 ⟨⟨Fa, Fn, Fc, rfl⟩, hs⟩
   have HX := hD (HX.out.below hs)
   have HG := hD (HG.out.below hs)
   clear hs b5 bl
   have z0 := HG.out.cells 0 _ rfl
   have z1 := HG.out.cells 1 _ rfl
   have z2 := HG.out.cells 2 _ rfl
   have z3 := HG.out.cells 3 _ rfl
   have z4 := HG.out.cells 4 _ rfl
   have z5 := HG.out.cells 5 _ rfl
   have y0 := HX.out.res.cells 0 _ rfl
   have y1 := HX.out.res.cells 1 _ rfl
   have y2 := HX.out.res.cells 2 _ rfl
   have y3 := HX.out.res.cells 3 _ rfl
   have y4 := HX.out.res.cells 4 _ rfl
   have y5 := HX.out.res.cells 5 _ rfl
   have e0 := HX.out.res.free 0 (by decide)
   have e1 := HX.out.res.free 1 (by decide)
   have e2 := HX.out.res.free 2 (by decide)
   have e3 := HX.out.res.free 3 (by decide)
   have e4 := HX.out.res.free 4 (by decide)
   have e5 := HX.out.res.free 5 (by decide)
   have f5 := HG.out.free 5 (by simp)
   have lg := HG.out.lt
   have lr := HX.out.res.lt
   have hne : g ≠ w.heap.size + 1 := by have := HGw.out; omega
   have hne2 : w.heap.size + 1 ≠ g := by have := HGw.out; omega
   go_wp2_with fail
   refine bodyPost_ret (v := .agg #[.string nm, .int .i64 KK, .int .u16 MM, .slice Ra Rn Rc, .slice Wa Wn Wc, .slice Fa Fn Fc]) (by simp [results, Tryz.results23, go_sem, y0, y1, y2, y3, y4, y5]) rfl ⟨⟨nm, KK, MM, Ra, Wa, Fa, Rn, Rc, Wn, Wc, Fn, Fc, rfl⟩, ?_⟩
   have hlow := HX.out.low.setCell (p := ⟨g, 5, none⟩) (by show w.heap.size ≤ g; have := HGw.out; omega) (.slice Fa Fn Fc)
   exact (((((hlow.setCell (by show w.heap.size ≤ w.heap.size + 1; omega) _).setCell (by show w.heap.size ≤ w.heap.size + 1; omega) _).setCell (by show w.heap.size ≤ w.heap.size + 1; omega) _).setCell (by show w.heap.size ≤ w.heap.size + 1; omega) _).setCell (by show w.heap.size ≤ w.heap.size + 1; omega) _).setCell (by show w.heap.size ≤ w.heap.size + 1; omega) _
structure Of4 (d : Dr) (w W : World) : Prop where
 low : Below w.heap.size w W
 lt : w.heap.size + 1 < W.heap.size
 cells : ∀ j v, [.int .u8 (d.kind : Int), .int .u8 3, .int .u8 (d.mode : Int), .slice d.read.a d.read.l.length d.read.c, .slice d.write.a d.write.l.length d.write.c, .slice d.faults.a d.faults.l.length d.faults.c][j]? = some v → W.cell? ⟨w.heap.size, j, none⟩ = some v
 res : Vz W (w.heap.size + 1) [.string ⟨#[]⟩, .int .i64 0, .int .u16 0, .slice none 0 0, .slice none 0 0, .slice none 0 0]
theorem Of4.below {d : Dr} {w W W' : World} (h : Of4 d w W) (hb : Below W.heap.size W W') : Of4 d w W' :=
 ⟨bon h.low hb, Nat.lt_of_lt_of_le h.lt hb.size, fun j v hj => (hb.cell (p := ⟨w.heap.size, j, none⟩) (by have := h.lt; show w.heap.size < W.heap.size; omega)).trans (h.cells j v hj), h.res.below hb⟩
theorem Of4.set {d : Dr} {w W : World} (h : Of4 d w W) {g : Nat} (hg : w.heap.size + 1 < g) (i : Nat) (u : Value) : Of4 d w (W.setCell ⟨g, i, none⟩ u) :=
 ⟨h.low.setCell (by show w.heap.size ≤ g; omega) u, by simpa using h.lt, fun j v hj => (World.cell?_setCell_other _ _ _ _ (set_ne _ _ (by omega))).trans (h.cells j v hj), h.res.grown (grown_set _ _ _) (by simp; omega)⟩
theorem Of4.new (d : Dr) (w : World) : Of4 d w ((w.alloc (.cells #[.int .u8 (d.kind : Int), .int .u8 3, .int .u8 (d.mode : Int), .slice d.read.a d.read.l.length d.read.c, .slice d.write.a d.write.l.length d.write.c, .slice d.faults.a d.faults.l.length d.faults.c] 74)).alloc (.cells #[.string ⟨#[]⟩, .int .i64 0, .int .u16 0, .slice none 0 0, .slice none 0 0, .slice none 0 0] 77)) where
 low := bon (below_new w _) (below_new _ _)
 lt := by simp
 cells j v hj := by
  have h1 := (below_new (w.alloc (.cells #[.int .u8 (d.kind : Int), .int .u8 3, .int .u8 (d.mode : Int), .slice d.read.a d.read.l.length d.read.c, .slice d.write.a d.write.l.length d.write.c, .slice d.faults.a d.faults.l.length d.faults.c] 74)) (.cells #[.string ⟨#[]⟩, .int .i64 0, .int .u16 0, .slice none 0 0, .slice none 0 0, .slice none 0 0] 77)).cell (p := ⟨w.heap.size, j, none⟩) (by simp)
  have h3 := cell_new w [.int .u8 (d.kind : Int), .int .u8 3, .int .u8 (d.mode : Int), .slice d.read.a d.read.l.length d.read.c, .slice d.write.a d.write.l.length d.write.c, .slice d.faults.a d.faults.l.length d.faults.c] 74 w.heap.size rfl j v hj
  rw [add_off, Nat.zero_add] at h3
  exact h1.trans h3
 res := by
  have h := Vz.new (w.alloc (.cells #[.int .u8 (d.kind : Int), .int .u8 3, .int .u8 (d.mode : Int), .slice d.read.a d.read.l.length d.read.c, .slice d.write.a d.write.l.length d.write.c, .slice d.faults.a d.faults.l.length d.faults.c] 74)) [.string ⟨#[]⟩, .int .i64 0, .int .u16 0, .slice none 0 0, .slice none 0 0, .slice none 0 0] 77
  rw [World.size_alloc] at h
  exact h
set_option maxRecDepth 100000 in
set_option maxHeartbeats 2000000 in
theorem of4_any (d : Dr) (nm : ByteArray) (w : World) (hd : d.mode < 256) (hk : d.kind < 256) (hr1 : Rd w 1 d.read.a d.read.l.length (setC d.read.l)) (hu1 : u16s d.read.l) (hr2 : Rd w 1 d.write.a d.write.l.length (setC d.write.l)) (hu2 : u16s d.write.l) (hr3 : Rd w 2 d.faults.a d.faults.l.length (d.faults.l.flatMap fltC)) : Calls Tryz.prog 23 #[.agg #[.int .u8 (d.kind : Int), .int .u8 3, .int .u8 (d.mode : Int), .slice d.read.a d.read.l.length d.read.c, .slice d.write.a d.write.l.length d.write.c, .slice d.faults.a d.faults.l.length d.faults.c], .string nm] w (RetCfg w) := by
 have HS : Hid (∀ (m : Sl Nat) (W : World) (R : Prop), (m = d.read ∨ m = d.write) → (Below w.heap.size w W ∧ R) → Calls Tryz.prog 54 #[.agg #[.int .u8 (d.kind : Int), .int .u8 3, .int .u8 (d.mode : Int), .slice d.read.a d.read.l.length d.read.c, .slice d.write.a d.write.l.length d.write.c, .slice d.faults.a d.faults.l.length d.faults.c], .slice m.a m.l.length m.c, .int .i64 4] W (Sm W)) := hD (fun m W _ hm hW => by
  rcases hm with rfl | rfl
  · exact sets4_any ⟨d.kind, 3, d.mode, d.read, d.write, d.faults⟩ d.read W (hr1.below hW.1) hu1 hd
  · exact sets4_any ⟨d.kind, 3, d.mode, d.read, d.write, d.faults⟩ d.write W (hr2.below hW.1) hu2 hd)
 have HM : Hid (∀ (W : World), Below w.heap.size w W → Calls Tryz.prog 55 #[.int .i64 4, .slice d.faults.a d.faults.l.length d.faults.c] W (Sm W)) := hD (fun W hW => made4_any _ _ _ W (hr3.below hW))
 have H0 := hD (Of4.new d w)
 clear hr1 hu1 hr2 hu2 hr3
 have c0 := H0.out.cells 1 _ rfl
 have l0 : w.heap.size < (World.heap ((w.alloc (.cells #[.int .u8 (d.kind : Int), .int .u8 3, .int .u8 (d.mode : Int), .slice d.read.a d.read.l.length d.read.c, .slice d.write.a d.write.l.length d.write.c, .slice d.faults.a d.faults.l.length d.faults.c] 74)).alloc (.cells #[.string ⟨#[]⟩, .int .i64 0, .int .u16 0, .slice none 0 0, .slice none 0 0, .slice none 0 0] 77))).size := by have := H0.out.lt; omega
 have k0 : (0 : Int) ≤ (d.kind : Int) := by omega
 have k1 : (d.kind : Int) < 256 := by omega
 go_enter Tryz.func23, Tryz.ntmps23
 go_upto_region 2 with fail
 clear c0 l0
 refine wp_region_noPanic ?_
 have HX : Hid (Of4 d w ((w.alloc (.cells #[.int .u8 (d.kind : Int), .int .u8 3, .int .u8 (d.mode : Int), .slice d.read.a d.read.l.length d.read.c, .slice d.write.a d.write.l.length d.write.c, .slice d.faults.a d.faults.l.length d.faults.c] 74)).alloc (.cells #[.string ⟨#[]⟩, .int .i64 0, .int .u16 0, .slice none 0 0, .slice none 0 0, .slice none 0 0] 77)).drew) := hD (H0.out.below (Below.refl _ _).drew)
 generalize hv : ((w.alloc (.cells #[.int .u8 (d.kind : Int), .int .u8 3, .int .u8 (d.mode : Int), .slice d.read.a d.read.l.length d.read.c, .slice d.write.a d.write.l.length d.write.c, .slice d.faults.a d.faults.l.length d.faults.c] 74)).alloc (.cells #[.string ⟨#[]⟩, .int .i64 0, .int .u16 0, .slice none 0 0, .slice none 0 0, .slice none 0 0] 77)).drew = v0 at HX
 have hS0 : Below w.heap.size w v0 ∧ w.heap.size + 1 < (World.heap v0).size ∧ World.cell? v0 ⟨w.heap.size, 0, none⟩ = some (.int .u8 (d.kind : Int)) ∧ World.cell? v0 ⟨w.heap.size, 1, none⟩ = some (.int .u8 3) ∧ World.cell? v0 ⟨w.heap.size, 2, none⟩ = some (.int .u8 (d.mode : Int)) ∧ World.cell? v0 ⟨w.heap.size, 3, none⟩ = some (.slice d.read.a d.read.l.length d.read.c) ∧ World.cell? v0 ⟨w.heap.size, 4, none⟩ = some (.slice d.write.a d.write.l.length d.write.c) ∧ World.cell? v0 ⟨w.heap.size, 5, none⟩ = some (.slice d.faults.a d.faults.l.length d.faults.c) := ⟨HX.out.1, HX.out.2, HX.out.3 0 _ rfl, HX.out.3 1 _ rfl, HX.out.3 2 _ rfl, HX.out.3 3 _ rfl, HX.out.3 4 _ rfl, HX.out.3 5 _ rfl⟩
 refine wp_region_held_drew (S := fun W => Below w.heap.size w W ∧ w.heap.size + 1 < (World.heap W).size ∧ World.cell? W ⟨w.heap.size, 0, none⟩ = some (.int .u8 (d.kind : Int)) ∧ World.cell? W ⟨w.heap.size, 1, none⟩ = some (.int .u8 3) ∧ World.cell? W ⟨w.heap.size, 2, none⟩ = some (.int .u8 (d.mode : Int)) ∧ World.cell? W ⟨w.heap.size, 3, none⟩ = some (.slice d.read.a d.read.l.length d.read.c) ∧ World.cell? W ⟨w.heap.size, 4, none⟩ = some (.slice d.write.a d.write.l.length d.write.c) ∧ World.cell? W ⟨w.heap.size, 5, none⟩ = some (.slice d.faults.a d.faults.l.length d.faults.c)) (by kernel_rfl) (by rw [hv]; exact hS0) (fun hHeld => ?_)
 rw [hv] at hHeld ⊢
 clear hv
 refine takes [0,1,2,3,4,5,6,7,8,9,10,11,12,14,15,16,17] ?_
 refine wpAnyH_ready (rs := [13, 20]) (by kernel_rfl) (by simp) ?_
 refine AllReadyH.cons (o := _) rfl (fun K hK => ?_) (AllReadyH.cons (o := _) rfl (fun K hK => ?_) AllReadyH.nil)
 · go_simp
   go_at_call 54
   refine (HS.out d.read _ _ (.inl rfl) (by assumption)).mono ?_
   rintro e v1 ⟨⟨Ra, Rn, Rc, rfl⟩, hs⟩
   have HX := hD (HX.out.below hs)
   clear hs
   go_wp2_with fail
   have hS1 : Below w.heap.size w v1 ∧ w.heap.size + 1 < (World.heap v1).size ∧ World.cell? v1 ⟨w.heap.size, 0, none⟩ = some (.int .u8 (d.kind : Int)) ∧ World.cell? v1 ⟨w.heap.size, 1, none⟩ = some (.int .u8 3) ∧ World.cell? v1 ⟨w.heap.size, 2, none⟩ = some (.int .u8 (d.mode : Int)) ∧ World.cell? v1 ⟨w.heap.size, 3, none⟩ = some (.slice d.read.a d.read.l.length d.read.c) ∧ World.cell? v1 ⟨w.heap.size, 4, none⟩ = some (.slice d.write.a d.write.l.length d.write.c) ∧ World.cell? v1 ⟨w.heap.size, 5, none⟩ = some (.slice d.faults.a d.faults.l.length d.faults.c) := ⟨HX.out.1, HX.out.2, HX.out.3 0 _ rfl, HX.out.3 1 _ rfl, HX.out.3 2 _ rfl, HX.out.3 3 _ rfl, HX.out.3 4 _ rfl, HX.out.3 5 _ rfl⟩
   refine hK.out _ _ hS1 (fun hHeld => ?_)
   clear hK K
   try simp only [Act.put,qk1,qk2,qk3,qk4,qk5,qk6]
   refine wpAnyH_ready (rs := [18, 20]) (by kernel_rfl) (by simp) ?_
   refine AllReadyH.cons (o := _) rfl (fun K hK => ?_) (AllReadyH.cons (o := _) rfl (fun K hK => ?_) AllReadyH.nil)
   · go_simp
     go_at_call 54
     refine (HS.out d.write _ _ (.inr rfl) (by assumption)).mono ?_
     rintro e v2 ⟨⟨Wa, Wn, Wc, rfl⟩, hs⟩
     have HX := hD (HX.out.below hs)
     clear hs
     go_wp2_with fail
     have hS2 : Below w.heap.size w v2 ∧ w.heap.size + 1 < (World.heap v2).size ∧ World.cell? v2 ⟨w.heap.size, 0, none⟩ = some (.int .u8 (d.kind : Int)) ∧ World.cell? v2 ⟨w.heap.size, 1, none⟩ = some (.int .u8 3) ∧ World.cell? v2 ⟨w.heap.size, 2, none⟩ = some (.int .u8 (d.mode : Int)) ∧ World.cell? v2 ⟨w.heap.size, 3, none⟩ = some (.slice d.read.a d.read.l.length d.read.c) ∧ World.cell? v2 ⟨w.heap.size, 4, none⟩ = some (.slice d.write.a d.write.l.length d.write.c) ∧ World.cell? v2 ⟨w.heap.size, 5, none⟩ = some (.slice d.faults.a d.faults.l.length d.faults.c) := ⟨HX.out.1, HX.out.2, HX.out.3 0 _ rfl, HX.out.3 1 _ rfl, HX.out.3 2 _ rfl, HX.out.3 3 _ rfl, HX.out.3 4 _ rfl, HX.out.3 5 _ rfl⟩
     refine hK.out _ _ hS2 (fun hHeld => ?_)
     clear hK K
     try simp only [Act.put,qk1,qk2,qk3,qk4,qk5,qk6]
     refine takes [19] ?_
     refine tkr 20 rfl (fun K hK => ?_)
     go_simp
     have HGw : Hid (w.heap.size + 1 < (World.heap v2).size) := hD HX.out.lt
     have HG : Hid (Vz (World.alloc v2 (.cells #[.string ⟨#[]⟩, .int .i64 0, .int .u16 0, .slice none 0 0, .slice none 0 0, .slice none 0 0] 77)) (World.heap v2).size [.string ⟨#[]⟩, .int .i64 0, .int .u16 0, .slice none 0 0, .slice none 0 0, .slice none 0 0]) := hD (Vz.new v2 [.string ⟨#[]⟩, .int .i64 0, .int .u16 0, .slice none 0 0, .slice none 0 0, .slice none 0 0] 77)
     have HX := hD (HX.out.below (below_new v2 (.cells #[.string ⟨#[]⟩, .int .i64 0, .int .u16 0, .slice none 0 0, .slice none 0 0, .slice none 0 0] 77)))
     generalize World.alloc v2 (.cells #[.string ⟨#[]⟩, .int .i64 0, .int .u16 0, .slice none 0 0, .slice none 0 0, .slice none 0 0] 77) = v3 at HG HX ⊢
     generalize (World.heap v2).size = g at HG HGw ⊢
     have hS3 : Below w.heap.size w v3 ∧ w.heap.size + 1 < (World.heap v3).size ∧ World.cell? v3 ⟨w.heap.size, 0, none⟩ = some (.int .u8 (d.kind : Int)) ∧ World.cell? v3 ⟨w.heap.size, 1, none⟩ = some (.int .u8 3) ∧ World.cell? v3 ⟨w.heap.size, 2, none⟩ = some (.int .u8 (d.mode : Int)) ∧ World.cell? v3 ⟨w.heap.size, 3, none⟩ = some (.slice d.read.a d.read.l.length d.read.c) ∧ World.cell? v3 ⟨w.heap.size, 4, none⟩ = some (.slice d.write.a d.write.l.length d.write.c) ∧ World.cell? v3 ⟨w.heap.size, 5, none⟩ = some (.slice d.faults.a d.faults.l.length d.faults.c) := ⟨HX.out.1, HX.out.2, HX.out.3 0 _ rfl, HX.out.3 1 _ rfl, HX.out.3 2 _ rfl, HX.out.3 3 _ rfl, HX.out.3 4 _ rfl, HX.out.3 5 _ rfl⟩
     refine hK.out _ _ hS3 (fun hHeld => ?_)
     clear hK K
     try simp only [Act.put,qk1,qk2,qk3,qk4,qk5,qk6]
     generalize IntKind.i64.wrap (1 + IntKind.i64.wrap ((d.kind : Int).tmod 2)) = KK
     generalize IntKind.u16.wrap (IntKind.u16.wrap 16 - 1) = MM
     have z0 := HG.out.cells 0 _ rfl
     have z1 := HG.out.cells 1 _ rfl
     have z2 := HG.out.cells 2 _ rfl
     have z3 := HG.out.cells 3 _ rfl
     have z4 := HG.out.cells 4 _ rfl
     have z5 := HG.out.cells 5 _ rfl
     have f0 := HG.out.free 0 (by decide)
     have f1 := HG.out.free 1 (by decide)
     have f2 := HG.out.free 2 (by decide)
     have f3 := HG.out.free 3 (by decide)
     have f4 := HG.out.free 4 (by decide)
     have f5 := HG.out.free 5 (by decide)
     have lg := HG.out.lt
     refine tkr 21 rfl (fun K hK => ?_)
     go_simp
     have HX := hD ((((((HX.out.set HGw.out 0 (.string nm)).set HGw.out 1 (.int .i64 KK)).set HGw.out 2 (.int .u16 MM)).set HGw.out 3 (.slice Ra Rn Rc)).set HGw.out 4 (.slice Wa Wn Wc)).set HGw.out 5 (.slice none 0 0))
     have HG : Hid (Vz (World.setCell (World.setCell (World.setCell (World.setCell (World.setCell (World.setCell v3 ⟨g, 0, none⟩ (.string nm)) ⟨g, 1, none⟩ (.int .i64 KK)) ⟨g, 2, none⟩ (.int .u16 MM)) ⟨g, 3, none⟩ (.slice Ra Rn Rc)) ⟨g, 4, none⟩ (.slice Wa Wn Wc)) ⟨g, 5, none⟩ (.slice none 0 0)) g [.string nm, .int .i64 KK, .int .u16 MM, .slice Ra Rn Rc, .slice Wa Wn Wc, .slice none 0 0]) := hD (((((((HG.out.set 0 (.string nm)).set 1 (.int .i64 KK)).set 2 (.int .u16 MM)).set 3 (.slice Ra Rn Rc)).set 4 (.slice Wa Wn Wc)).set 5 (.slice none 0 0)).eq rfl)
     clear z0 z1 z2 z3 z4 z5 f0 f1 f2 f3 f4 f5 lg
     generalize (World.setCell (World.setCell (World.setCell (World.setCell (World.setCell (World.setCell v3 ⟨g, 0, none⟩ (.string nm)) ⟨g, 1, none⟩ (.int .i64 KK)) ⟨g, 2, none⟩ (.int .u16 MM)) ⟨g, 3, none⟩ (.slice Ra Rn Rc)) ⟨g, 4, none⟩ (.slice Wa Wn Wc)) ⟨g, 5, none⟩ (.slice none 0 0)) = v4 at HX HG ⊢
     have hS4 : Below w.heap.size w v4 ∧ w.heap.size + 1 < (World.heap v4).size ∧ World.cell? v4 ⟨w.heap.size, 0, none⟩ = some (.int .u8 (d.kind : Int)) ∧ World.cell? v4 ⟨w.heap.size, 1, none⟩ = some (.int .u8 3) ∧ World.cell? v4 ⟨w.heap.size, 2, none⟩ = some (.int .u8 (d.mode : Int)) ∧ World.cell? v4 ⟨w.heap.size, 3, none⟩ = some (.slice d.read.a d.read.l.length d.read.c) ∧ World.cell? v4 ⟨w.heap.size, 4, none⟩ = some (.slice d.write.a d.write.l.length d.write.c) ∧ World.cell? v4 ⟨w.heap.size, 5, none⟩ = some (.slice d.faults.a d.faults.l.length d.faults.c) := ⟨HX.out.1, HX.out.2, HX.out.3 0 _ rfl, HX.out.3 1 _ rfl, HX.out.3 2 _ rfl, HX.out.3 3 _ rfl, HX.out.3 4 _ rfl, HX.out.3 5 _ rfl⟩
     refine hK.out _ _ hS4 (fun hHeld => ?_)
     clear hK K
     try simp only [Act.put,qk1,qk2,qk3,qk4,qk5,qk6]
     refine wpAnyH_done (by kernel_rfl) ?_ _
     refine NoPanic.normal ?_
     clear hS0 hS1 hS2 hS3 hS4 hHeld
     have b5 := HX.out.cells 5 _ rfl
     have bl : w.heap.size < (World.heap v4).size := by have := HX.out.lt; omega
     go_wp2_with fail
     refine (HM.out _ HX.out.low).mono ?_
     rintro e v5 ⟨⟨Fa, Fn, Fc, rfl⟩, hs⟩
     have HX := hD (HX.out.below hs)
     have HG := hD (HG.out.below hs)
     clear hs b5 bl
     have z0 := HG.out.cells 0 _ rfl
     have z1 := HG.out.cells 1 _ rfl
     have z2 := HG.out.cells 2 _ rfl
     have z3 := HG.out.cells 3 _ rfl
     have z4 := HG.out.cells 4 _ rfl
     have z5 := HG.out.cells 5 _ rfl
     have y0 := HX.out.res.cells 0 _ rfl
     have y1 := HX.out.res.cells 1 _ rfl
     have y2 := HX.out.res.cells 2 _ rfl
     have y3 := HX.out.res.cells 3 _ rfl
     have y4 := HX.out.res.cells 4 _ rfl
     have y5 := HX.out.res.cells 5 _ rfl
     have e0 := HX.out.res.free 0 (by decide)
     have e1 := HX.out.res.free 1 (by decide)
     have e2 := HX.out.res.free 2 (by decide)
     have e3 := HX.out.res.free 3 (by decide)
     have e4 := HX.out.res.free 4 (by decide)
     have e5 := HX.out.res.free 5 (by decide)
     have f5 := HG.out.free 5 (by simp)
     have lg := HG.out.lt
     have lr := HX.out.res.lt
     have hne : g ≠ w.heap.size + 1 := by have := HGw.out; omega
     have hne2 : w.heap.size + 1 ≠ g := by have := HGw.out; omega
     go_wp2_with fail
     refine bodyPost_ret (v := .agg #[.string nm, .int .i64 KK, .int .u16 MM, .slice Ra Rn Rc, .slice Wa Wn Wc, .slice Fa Fn Fc]) (by simp [results, Tryz.results23, go_sem, y0, y1, y2, y3, y4, y5]) rfl ⟨⟨nm, KK, MM, Ra, Wa, Fa, Rn, Rc, Wn, Wc, Fn, Fc, rfl⟩, ?_⟩
     have hlow := HX.out.low.setCell (p := ⟨g, 5, none⟩) (by show w.heap.size ≤ g; have := HGw.out; omega) (.slice Fa Fn Fc)
     exact (((((hlow.setCell (by show w.heap.size ≤ w.heap.size + 1; omega) _).setCell (by show w.heap.size ≤ w.heap.size + 1; omega) _).setCell (by show w.heap.size ≤ w.heap.size + 1; omega) _).setCell (by show w.heap.size ≤ w.heap.size + 1; omega) _).setCell (by show w.heap.size ≤ w.heap.size + 1; omega) _).setCell (by show w.heap.size ≤ w.heap.size + 1; omega) _
   · go_simp
     have HGw : Hid (w.heap.size + 1 < (World.heap v1).size) := hD HX.out.lt
     have HG : Hid (Vz (World.alloc v1 (.cells #[.string ⟨#[]⟩, .int .i64 0, .int .u16 0, .slice none 0 0, .slice none 0 0, .slice none 0 0] 77)) (World.heap v1).size [.string ⟨#[]⟩, .int .i64 0, .int .u16 0, .slice none 0 0, .slice none 0 0, .slice none 0 0]) := hD (Vz.new v1 [.string ⟨#[]⟩, .int .i64 0, .int .u16 0, .slice none 0 0, .slice none 0 0, .slice none 0 0] 77)
     have HX := hD (HX.out.below (below_new v1 (.cells #[.string ⟨#[]⟩, .int .i64 0, .int .u16 0, .slice none 0 0, .slice none 0 0, .slice none 0 0] 77)))
     generalize World.alloc v1 (.cells #[.string ⟨#[]⟩, .int .i64 0, .int .u16 0, .slice none 0 0, .slice none 0 0, .slice none 0 0] 77) = v2 at HG HX ⊢
     generalize (World.heap v1).size = g at HG HGw ⊢
     have hS2 : Below w.heap.size w v2 ∧ w.heap.size + 1 < (World.heap v2).size ∧ World.cell? v2 ⟨w.heap.size, 0, none⟩ = some (.int .u8 (d.kind : Int)) ∧ World.cell? v2 ⟨w.heap.size, 1, none⟩ = some (.int .u8 3) ∧ World.cell? v2 ⟨w.heap.size, 2, none⟩ = some (.int .u8 (d.mode : Int)) ∧ World.cell? v2 ⟨w.heap.size, 3, none⟩ = some (.slice d.read.a d.read.l.length d.read.c) ∧ World.cell? v2 ⟨w.heap.size, 4, none⟩ = some (.slice d.write.a d.write.l.length d.write.c) ∧ World.cell? v2 ⟨w.heap.size, 5, none⟩ = some (.slice d.faults.a d.faults.l.length d.faults.c) := ⟨HX.out.1, HX.out.2, HX.out.3 0 _ rfl, HX.out.3 1 _ rfl, HX.out.3 2 _ rfl, HX.out.3 3 _ rfl, HX.out.3 4 _ rfl, HX.out.3 5 _ rfl⟩
     refine hK.out _ _ hS2 (fun hHeld => ?_)
     clear hK K
     try simp only [Act.put,qk1,qk2,qk3,qk4,qk5,qk6]
     refine tkr 18 rfl (fun K hK => ?_)
     go_simp
     go_at_call 54
     refine (HS.out d.write _ _ (.inr rfl) (by assumption)).mono ?_
     rintro e v3 ⟨⟨Wa, Wn, Wc, rfl⟩, hs⟩
     have HX := hD (HX.out.below hs)
     have HG := hD (HG.out.below hs)
     clear hs
     go_wp2_with fail
     have hS3 : Below w.heap.size w v3 ∧ w.heap.size + 1 < (World.heap v3).size ∧ World.cell? v3 ⟨w.heap.size, 0, none⟩ = some (.int .u8 (d.kind : Int)) ∧ World.cell? v3 ⟨w.heap.size, 1, none⟩ = some (.int .u8 3) ∧ World.cell? v3 ⟨w.heap.size, 2, none⟩ = some (.int .u8 (d.mode : Int)) ∧ World.cell? v3 ⟨w.heap.size, 3, none⟩ = some (.slice d.read.a d.read.l.length d.read.c) ∧ World.cell? v3 ⟨w.heap.size, 4, none⟩ = some (.slice d.write.a d.write.l.length d.write.c) ∧ World.cell? v3 ⟨w.heap.size, 5, none⟩ = some (.slice d.faults.a d.faults.l.length d.faults.c) := ⟨HX.out.1, HX.out.2, HX.out.3 0 _ rfl, HX.out.3 1 _ rfl, HX.out.3 2 _ rfl, HX.out.3 3 _ rfl, HX.out.3 4 _ rfl, HX.out.3 5 _ rfl⟩
     refine hK.out _ _ hS3 (fun hHeld => ?_)
     clear hK K
     try simp only [Act.put,qk1,qk2,qk3,qk4,qk5,qk6]
     refine takes [19] ?_
     generalize IntKind.i64.wrap (1 + IntKind.i64.wrap ((d.kind : Int).tmod 2)) = KK
     generalize IntKind.u16.wrap (IntKind.u16.wrap 16 - 1) = MM
     have z0 := HG.out.cells 0 _ rfl
     have z1 := HG.out.cells 1 _ rfl
     have z2 := HG.out.cells 2 _ rfl
     have z3 := HG.out.cells 3 _ rfl
     have z4 := HG.out.cells 4 _ rfl
     have z5 := HG.out.cells 5 _ rfl
     have f0 := HG.out.free 0 (by decide)
     have f1 := HG.out.free 1 (by decide)
     have f2 := HG.out.free 2 (by decide)
     have f3 := HG.out.free 3 (by decide)
     have f4 := HG.out.free 4 (by decide)
     have f5 := HG.out.free 5 (by decide)
     have lg := HG.out.lt
     refine tkr 21 rfl (fun K hK => ?_)
     go_simp
     have HX := hD ((((((HX.out.set HGw.out 0 (.string nm)).set HGw.out 1 (.int .i64 KK)).set HGw.out 2 (.int .u16 MM)).set HGw.out 3 (.slice Ra Rn Rc)).set HGw.out 4 (.slice Wa Wn Wc)).set HGw.out 5 (.slice none 0 0))
     have HG : Hid (Vz (World.setCell (World.setCell (World.setCell (World.setCell (World.setCell (World.setCell v3 ⟨g, 0, none⟩ (.string nm)) ⟨g, 1, none⟩ (.int .i64 KK)) ⟨g, 2, none⟩ (.int .u16 MM)) ⟨g, 3, none⟩ (.slice Ra Rn Rc)) ⟨g, 4, none⟩ (.slice Wa Wn Wc)) ⟨g, 5, none⟩ (.slice none 0 0)) g [.string nm, .int .i64 KK, .int .u16 MM, .slice Ra Rn Rc, .slice Wa Wn Wc, .slice none 0 0]) := hD (((((((HG.out.set 0 (.string nm)).set 1 (.int .i64 KK)).set 2 (.int .u16 MM)).set 3 (.slice Ra Rn Rc)).set 4 (.slice Wa Wn Wc)).set 5 (.slice none 0 0)).eq rfl)
     clear z0 z1 z2 z3 z4 z5 f0 f1 f2 f3 f4 f5 lg
     generalize (World.setCell (World.setCell (World.setCell (World.setCell (World.setCell (World.setCell v3 ⟨g, 0, none⟩ (.string nm)) ⟨g, 1, none⟩ (.int .i64 KK)) ⟨g, 2, none⟩ (.int .u16 MM)) ⟨g, 3, none⟩ (.slice Ra Rn Rc)) ⟨g, 4, none⟩ (.slice Wa Wn Wc)) ⟨g, 5, none⟩ (.slice none 0 0)) = v4 at HX HG ⊢
     have hS4 : Below w.heap.size w v4 ∧ w.heap.size + 1 < (World.heap v4).size ∧ World.cell? v4 ⟨w.heap.size, 0, none⟩ = some (.int .u8 (d.kind : Int)) ∧ World.cell? v4 ⟨w.heap.size, 1, none⟩ = some (.int .u8 3) ∧ World.cell? v4 ⟨w.heap.size, 2, none⟩ = some (.int .u8 (d.mode : Int)) ∧ World.cell? v4 ⟨w.heap.size, 3, none⟩ = some (.slice d.read.a d.read.l.length d.read.c) ∧ World.cell? v4 ⟨w.heap.size, 4, none⟩ = some (.slice d.write.a d.write.l.length d.write.c) ∧ World.cell? v4 ⟨w.heap.size, 5, none⟩ = some (.slice d.faults.a d.faults.l.length d.faults.c) := ⟨HX.out.1, HX.out.2, HX.out.3 0 _ rfl, HX.out.3 1 _ rfl, HX.out.3 2 _ rfl, HX.out.3 3 _ rfl, HX.out.3 4 _ rfl, HX.out.3 5 _ rfl⟩
     refine hK.out _ _ hS4 (fun hHeld => ?_)
     clear hK K
     try simp only [Act.put,qk1,qk2,qk3,qk4,qk5,qk6]
     refine wpAnyH_done (by kernel_rfl) ?_ _
     refine NoPanic.normal ?_
     clear hS0 hS1 hS2 hS3 hS4 hHeld
     have b5 := HX.out.cells 5 _ rfl
     have bl : w.heap.size < (World.heap v4).size := by have := HX.out.lt; omega
     go_wp2_with fail
     refine (HM.out _ HX.out.low).mono ?_
     rintro e v5 ⟨⟨Fa, Fn, Fc, rfl⟩, hs⟩
     have HX := hD (HX.out.below hs)
     have HG := hD (HG.out.below hs)
     clear hs b5 bl
     have z0 := HG.out.cells 0 _ rfl
     have z1 := HG.out.cells 1 _ rfl
     have z2 := HG.out.cells 2 _ rfl
     have z3 := HG.out.cells 3 _ rfl
     have z4 := HG.out.cells 4 _ rfl
     have z5 := HG.out.cells 5 _ rfl
     have y0 := HX.out.res.cells 0 _ rfl
     have y1 := HX.out.res.cells 1 _ rfl
     have y2 := HX.out.res.cells 2 _ rfl
     have y3 := HX.out.res.cells 3 _ rfl
     have y4 := HX.out.res.cells 4 _ rfl
     have y5 := HX.out.res.cells 5 _ rfl
     have e0 := HX.out.res.free 0 (by decide)
     have e1 := HX.out.res.free 1 (by decide)
     have e2 := HX.out.res.free 2 (by decide)
     have e3 := HX.out.res.free 3 (by decide)
     have e4 := HX.out.res.free 4 (by decide)
     have e5 := HX.out.res.free 5 (by decide)
     have f5 := HG.out.free 5 (by simp)
     have lg := HG.out.lt
     have lr := HX.out.res.lt
     have hne : g ≠ w.heap.size + 1 := by have := HGw.out; omega
     have hne2 : w.heap.size + 1 ≠ g := by have := HGw.out; omega
     go_wp2_with fail
     refine bodyPost_ret (v := .agg #[.string nm, .int .i64 KK, .int .u16 MM, .slice Ra Rn Rc, .slice Wa Wn Wc, .slice Fa Fn Fc]) (by simp [results, Tryz.results23, go_sem, y0, y1, y2, y3, y4, y5]) rfl ⟨⟨nm, KK, MM, Ra, Wa, Fa, Rn, Rc, Wn, Wc, Fn, Fc, rfl⟩, ?_⟩
     have hlow := HX.out.low.setCell (p := ⟨g, 5, none⟩) (by show w.heap.size ≤ g; have := HGw.out; omega) (.slice Fa Fn Fc)
     exact (((((hlow.setCell (by show w.heap.size ≤ w.heap.size + 1; omega) _).setCell (by show w.heap.size ≤ w.heap.size + 1; omega) _).setCell (by show w.heap.size ≤ w.heap.size + 1; omega) _).setCell (by show w.heap.size ≤ w.heap.size + 1; omega) _).setCell (by show w.heap.size ≤ w.heap.size + 1; omega) _).setCell (by show w.heap.size ≤ w.heap.size + 1; omega) _
 · go_simp
   have HGw : Hid (w.heap.size + 1 < (World.heap v0).size) := hD HX.out.lt
   have HG : Hid (Vz (World.alloc v0 (.cells #[.string ⟨#[]⟩, .int .i64 0, .int .u16 0, .slice none 0 0, .slice none 0 0, .slice none 0 0] 77)) (World.heap v0).size [.string ⟨#[]⟩, .int .i64 0, .int .u16 0, .slice none 0 0, .slice none 0 0, .slice none 0 0]) := hD (Vz.new v0 [.string ⟨#[]⟩, .int .i64 0, .int .u16 0, .slice none 0 0, .slice none 0 0, .slice none 0 0] 77)
   have HX := hD (HX.out.below (below_new v0 (.cells #[.string ⟨#[]⟩, .int .i64 0, .int .u16 0, .slice none 0 0, .slice none 0 0, .slice none 0 0] 77)))
   generalize World.alloc v0 (.cells #[.string ⟨#[]⟩, .int .i64 0, .int .u16 0, .slice none 0 0, .slice none 0 0, .slice none 0 0] 77) = v1 at HG HX ⊢
   generalize (World.heap v0).size = g at HG HGw ⊢
   have hS1 : Below w.heap.size w v1 ∧ w.heap.size + 1 < (World.heap v1).size ∧ World.cell? v1 ⟨w.heap.size, 0, none⟩ = some (.int .u8 (d.kind : Int)) ∧ World.cell? v1 ⟨w.heap.size, 1, none⟩ = some (.int .u8 3) ∧ World.cell? v1 ⟨w.heap.size, 2, none⟩ = some (.int .u8 (d.mode : Int)) ∧ World.cell? v1 ⟨w.heap.size, 3, none⟩ = some (.slice d.read.a d.read.l.length d.read.c) ∧ World.cell? v1 ⟨w.heap.size, 4, none⟩ = some (.slice d.write.a d.write.l.length d.write.c) ∧ World.cell? v1 ⟨w.heap.size, 5, none⟩ = some (.slice d.faults.a d.faults.l.length d.faults.c) := ⟨HX.out.1, HX.out.2, HX.out.3 0 _ rfl, HX.out.3 1 _ rfl, HX.out.3 2 _ rfl, HX.out.3 3 _ rfl, HX.out.3 4 _ rfl, HX.out.3 5 _ rfl⟩
   refine hK.out _ _ hS1 (fun hHeld => ?_)
   clear hK K
   try simp only [Act.put,qk1,qk2,qk3,qk4,qk5,qk6]
   refine tkr 13 rfl (fun K hK => ?_)
   go_simp
   go_at_call 54
   refine (HS.out d.read _ _ (.inl rfl) (by assumption)).mono ?_
   rintro e v2 ⟨⟨Ra, Rn, Rc, rfl⟩, hs⟩
   have HX := hD (HX.out.below hs)
   have HG := hD (HG.out.below hs)
   clear hs
   go_wp2_with fail
   have hS2 : Below w.heap.size w v2 ∧ w.heap.size + 1 < (World.heap v2).size ∧ World.cell? v2 ⟨w.heap.size, 0, none⟩ = some (.int .u8 (d.kind : Int)) ∧ World.cell? v2 ⟨w.heap.size, 1, none⟩ = some (.int .u8 3) ∧ World.cell? v2 ⟨w.heap.size, 2, none⟩ = some (.int .u8 (d.mode : Int)) ∧ World.cell? v2 ⟨w.heap.size, 3, none⟩ = some (.slice d.read.a d.read.l.length d.read.c) ∧ World.cell? v2 ⟨w.heap.size, 4, none⟩ = some (.slice d.write.a d.write.l.length d.write.c) ∧ World.cell? v2 ⟨w.heap.size, 5, none⟩ = some (.slice d.faults.a d.faults.l.length d.faults.c) := ⟨HX.out.1, HX.out.2, HX.out.3 0 _ rfl, HX.out.3 1 _ rfl, HX.out.3 2 _ rfl, HX.out.3 3 _ rfl, HX.out.3 4 _ rfl, HX.out.3 5 _ rfl⟩
   refine hK.out _ _ hS2 (fun hHeld => ?_)
   clear hK K
   try simp only [Act.put,qk1,qk2,qk3,qk4,qk5,qk6]
   refine tkr 18 rfl (fun K hK => ?_)
   go_simp
   go_at_call 54
   refine (HS.out d.write _ _ (.inr rfl) (by assumption)).mono ?_
   rintro e v3 ⟨⟨Wa, Wn, Wc, rfl⟩, hs⟩
   have HX := hD (HX.out.below hs)
   have HG := hD (HG.out.below hs)
   clear hs
   go_wp2_with fail
   have hS3 : Below w.heap.size w v3 ∧ w.heap.size + 1 < (World.heap v3).size ∧ World.cell? v3 ⟨w.heap.size, 0, none⟩ = some (.int .u8 (d.kind : Int)) ∧ World.cell? v3 ⟨w.heap.size, 1, none⟩ = some (.int .u8 3) ∧ World.cell? v3 ⟨w.heap.size, 2, none⟩ = some (.int .u8 (d.mode : Int)) ∧ World.cell? v3 ⟨w.heap.size, 3, none⟩ = some (.slice d.read.a d.read.l.length d.read.c) ∧ World.cell? v3 ⟨w.heap.size, 4, none⟩ = some (.slice d.write.a d.write.l.length d.write.c) ∧ World.cell? v3 ⟨w.heap.size, 5, none⟩ = some (.slice d.faults.a d.faults.l.length d.faults.c) := ⟨HX.out.1, HX.out.2, HX.out.3 0 _ rfl, HX.out.3 1 _ rfl, HX.out.3 2 _ rfl, HX.out.3 3 _ rfl, HX.out.3 4 _ rfl, HX.out.3 5 _ rfl⟩
   refine hK.out _ _ hS3 (fun hHeld => ?_)
   clear hK K
   try simp only [Act.put,qk1,qk2,qk3,qk4,qk5,qk6]
   refine takes [19] ?_
   generalize IntKind.i64.wrap (1 + IntKind.i64.wrap ((d.kind : Int).tmod 2)) = KK
   generalize IntKind.u16.wrap (IntKind.u16.wrap 16 - 1) = MM
   have z0 := HG.out.cells 0 _ rfl
   have z1 := HG.out.cells 1 _ rfl
   have z2 := HG.out.cells 2 _ rfl
   have z3 := HG.out.cells 3 _ rfl
   have z4 := HG.out.cells 4 _ rfl
   have z5 := HG.out.cells 5 _ rfl
   have f0 := HG.out.free 0 (by decide)
   have f1 := HG.out.free 1 (by decide)
   have f2 := HG.out.free 2 (by decide)
   have f3 := HG.out.free 3 (by decide)
   have f4 := HG.out.free 4 (by decide)
   have f5 := HG.out.free 5 (by decide)
   have lg := HG.out.lt
   refine tkr 21 rfl (fun K hK => ?_)
   go_simp
   have HX := hD ((((((HX.out.set HGw.out 0 (.string nm)).set HGw.out 1 (.int .i64 KK)).set HGw.out 2 (.int .u16 MM)).set HGw.out 3 (.slice Ra Rn Rc)).set HGw.out 4 (.slice Wa Wn Wc)).set HGw.out 5 (.slice none 0 0))
   have HG : Hid (Vz (World.setCell (World.setCell (World.setCell (World.setCell (World.setCell (World.setCell v3 ⟨g, 0, none⟩ (.string nm)) ⟨g, 1, none⟩ (.int .i64 KK)) ⟨g, 2, none⟩ (.int .u16 MM)) ⟨g, 3, none⟩ (.slice Ra Rn Rc)) ⟨g, 4, none⟩ (.slice Wa Wn Wc)) ⟨g, 5, none⟩ (.slice none 0 0)) g [.string nm, .int .i64 KK, .int .u16 MM, .slice Ra Rn Rc, .slice Wa Wn Wc, .slice none 0 0]) := hD (((((((HG.out.set 0 (.string nm)).set 1 (.int .i64 KK)).set 2 (.int .u16 MM)).set 3 (.slice Ra Rn Rc)).set 4 (.slice Wa Wn Wc)).set 5 (.slice none 0 0)).eq rfl)
   clear z0 z1 z2 z3 z4 z5 f0 f1 f2 f3 f4 f5 lg
   generalize (World.setCell (World.setCell (World.setCell (World.setCell (World.setCell (World.setCell v3 ⟨g, 0, none⟩ (.string nm)) ⟨g, 1, none⟩ (.int .i64 KK)) ⟨g, 2, none⟩ (.int .u16 MM)) ⟨g, 3, none⟩ (.slice Ra Rn Rc)) ⟨g, 4, none⟩ (.slice Wa Wn Wc)) ⟨g, 5, none⟩ (.slice none 0 0)) = v4 at HX HG ⊢
   have hS4 : Below w.heap.size w v4 ∧ w.heap.size + 1 < (World.heap v4).size ∧ World.cell? v4 ⟨w.heap.size, 0, none⟩ = some (.int .u8 (d.kind : Int)) ∧ World.cell? v4 ⟨w.heap.size, 1, none⟩ = some (.int .u8 3) ∧ World.cell? v4 ⟨w.heap.size, 2, none⟩ = some (.int .u8 (d.mode : Int)) ∧ World.cell? v4 ⟨w.heap.size, 3, none⟩ = some (.slice d.read.a d.read.l.length d.read.c) ∧ World.cell? v4 ⟨w.heap.size, 4, none⟩ = some (.slice d.write.a d.write.l.length d.write.c) ∧ World.cell? v4 ⟨w.heap.size, 5, none⟩ = some (.slice d.faults.a d.faults.l.length d.faults.c) := ⟨HX.out.1, HX.out.2, HX.out.3 0 _ rfl, HX.out.3 1 _ rfl, HX.out.3 2 _ rfl, HX.out.3 3 _ rfl, HX.out.3 4 _ rfl, HX.out.3 5 _ rfl⟩
   refine hK.out _ _ hS4 (fun hHeld => ?_)
   clear hK K
   try simp only [Act.put,qk1,qk2,qk3,qk4,qk5,qk6]
   refine wpAnyH_done (by kernel_rfl) ?_ _
   refine NoPanic.normal ?_
   clear hS0 hS1 hS2 hS3 hS4 hHeld
   have b5 := HX.out.cells 5 _ rfl
   have bl : w.heap.size < (World.heap v4).size := by have := HX.out.lt; omega
   go_wp2_with fail
   refine (HM.out _ HX.out.low).mono ?_
   rintro e v5 ⟨⟨Fa, Fn, Fc, rfl⟩, hs⟩
   have HX := hD (HX.out.below hs)
   have HG := hD (HG.out.below hs)
   clear hs b5 bl
   have z0 := HG.out.cells 0 _ rfl
   have z1 := HG.out.cells 1 _ rfl
   have z2 := HG.out.cells 2 _ rfl
   have z3 := HG.out.cells 3 _ rfl
   have z4 := HG.out.cells 4 _ rfl
   have z5 := HG.out.cells 5 _ rfl
   have y0 := HX.out.res.cells 0 _ rfl
   have y1 := HX.out.res.cells 1 _ rfl
   have y2 := HX.out.res.cells 2 _ rfl
   have y3 := HX.out.res.cells 3 _ rfl
   have y4 := HX.out.res.cells 4 _ rfl
   have y5 := HX.out.res.cells 5 _ rfl
   have e0 := HX.out.res.free 0 (by decide)
   have e1 := HX.out.res.free 1 (by decide)
   have e2 := HX.out.res.free 2 (by decide)
   have e3 := HX.out.res.free 3 (by decide)
   have e4 := HX.out.res.free 4 (by decide)
   have e5 := HX.out.res.free 5 (by decide)
   have f5 := HG.out.free 5 (by simp)
   have lg := HG.out.lt
   have lr := HX.out.res.lt
   have hne : g ≠ w.heap.size + 1 := by have := HGw.out; omega
   have hne2 : w.heap.size + 1 ≠ g := by have := HGw.out; omega
   go_wp2_with fail
   refine bodyPost_ret (v := .agg #[.string nm, .int .i64 KK, .int .u16 MM, .slice Ra Rn Rc, .slice Wa Wn Wc, .slice Fa Fn Fc]) (by simp [results, Tryz.results23, go_sem, y0, y1, y2, y3, y4, y5]) rfl ⟨⟨nm, KK, MM, Ra, Wa, Fa, Rn, Rc, Wn, Wc, Fn, Fc, rfl⟩, ?_⟩
   have hlow := HX.out.low.setCell (p := ⟨g, 5, none⟩) (by show w.heap.size ≤ g; have := HGw.out; omega) (.slice Fa Fn Fc)
   exact (((((hlow.setCell (by show w.heap.size ≤ w.heap.size + 1; omega) _).setCell (by show w.heap.size ≤ w.heap.size + 1; omega) _).setCell (by show w.heap.size ≤ w.heap.size + 1; omega) _).setCell (by show w.heap.size ≤ w.heap.size + 1; omega) _).setCell (by show w.heap.size ≤ w.heap.size + 1; omega) _).setCell (by show w.heap.size ≤ w.heap.size + 1; omega) _
structure Of5 (d : Dr) (w W : World) : Prop where
 low : Below w.heap.size w W
 lt : w.heap.size + 1 < W.heap.size
 cells : ∀ j v, [.int .u8 (d.kind : Int), .int .u8 4, .int .u8 (d.mode : Int), .slice d.read.a d.read.l.length d.read.c, .slice d.write.a d.write.l.length d.write.c, .slice d.faults.a d.faults.l.length d.faults.c][j]? = some v → W.cell? ⟨w.heap.size, j, none⟩ = some v
 res : Vz W (w.heap.size + 1) [.string ⟨#[]⟩, .int .i64 0, .int .u16 0, .slice none 0 0, .slice none 0 0, .slice none 0 0]
theorem Of5.below {d : Dr} {w W W' : World} (h : Of5 d w W) (hb : Below W.heap.size W W') : Of5 d w W' :=
 ⟨bon h.low hb, Nat.lt_of_lt_of_le h.lt hb.size, fun j v hj => (hb.cell (p := ⟨w.heap.size, j, none⟩) (by have := h.lt; show w.heap.size < W.heap.size; omega)).trans (h.cells j v hj), h.res.below hb⟩
theorem Of5.set {d : Dr} {w W : World} (h : Of5 d w W) {g : Nat} (hg : w.heap.size + 1 < g) (i : Nat) (u : Value) : Of5 d w (W.setCell ⟨g, i, none⟩ u) :=
 ⟨h.low.setCell (by show w.heap.size ≤ g; omega) u, by simpa using h.lt, fun j v hj => (World.cell?_setCell_other _ _ _ _ (set_ne _ _ (by omega))).trans (h.cells j v hj), h.res.grown (grown_set _ _ _) (by simp; omega)⟩
theorem Of5.new (d : Dr) (w : World) : Of5 d w ((w.alloc (.cells #[.int .u8 (d.kind : Int), .int .u8 4, .int .u8 (d.mode : Int), .slice d.read.a d.read.l.length d.read.c, .slice d.write.a d.write.l.length d.write.c, .slice d.faults.a d.faults.l.length d.faults.c] 74)).alloc (.cells #[.string ⟨#[]⟩, .int .i64 0, .int .u16 0, .slice none 0 0, .slice none 0 0, .slice none 0 0] 77)) where
 low := bon (below_new w _) (below_new _ _)
 lt := by simp
 cells j v hj := by
  have h1 := (below_new (w.alloc (.cells #[.int .u8 (d.kind : Int), .int .u8 4, .int .u8 (d.mode : Int), .slice d.read.a d.read.l.length d.read.c, .slice d.write.a d.write.l.length d.write.c, .slice d.faults.a d.faults.l.length d.faults.c] 74)) (.cells #[.string ⟨#[]⟩, .int .i64 0, .int .u16 0, .slice none 0 0, .slice none 0 0, .slice none 0 0] 77)).cell (p := ⟨w.heap.size, j, none⟩) (by simp)
  have h3 := cell_new w [.int .u8 (d.kind : Int), .int .u8 4, .int .u8 (d.mode : Int), .slice d.read.a d.read.l.length d.read.c, .slice d.write.a d.write.l.length d.write.c, .slice d.faults.a d.faults.l.length d.faults.c] 74 w.heap.size rfl j v hj
  rw [add_off, Nat.zero_add] at h3
  exact h1.trans h3
 res := by
  have h := Vz.new (w.alloc (.cells #[.int .u8 (d.kind : Int), .int .u8 4, .int .u8 (d.mode : Int), .slice d.read.a d.read.l.length d.read.c, .slice d.write.a d.write.l.length d.write.c, .slice d.faults.a d.faults.l.length d.faults.c] 74)) [.string ⟨#[]⟩, .int .i64 0, .int .u16 0, .slice none 0 0, .slice none 0 0, .slice none 0 0] 77
  rw [World.size_alloc] at h
  exact h
set_option maxRecDepth 100000 in
set_option maxHeartbeats 2000000 in
theorem of5_any (d : Dr) (nm : ByteArray) (w : World) (hd : d.mode < 256) (hk : d.kind < 256) (hr1 : Rd w 1 d.read.a d.read.l.length (setC d.read.l)) (hu1 : u16s d.read.l) (hr2 : Rd w 1 d.write.a d.write.l.length (setC d.write.l)) (hu2 : u16s d.write.l) (hr3 : Rd w 2 d.faults.a d.faults.l.length (d.faults.l.flatMap fltC)) : Calls Tryz.prog 23 #[.agg #[.int .u8 (d.kind : Int), .int .u8 4, .int .u8 (d.mode : Int), .slice d.read.a d.read.l.length d.read.c, .slice d.write.a d.write.l.length d.write.c, .slice d.faults.a d.faults.l.length d.faults.c], .string nm] w (RetCfg w) := by
 have HS : Hid (∀ (m : Sl Nat) (W : World) (R : Prop), (m = d.read ∨ m = d.write) → (Below w.heap.size w W ∧ R) → Calls Tryz.prog 54 #[.agg #[.int .u8 (d.kind : Int), .int .u8 4, .int .u8 (d.mode : Int), .slice d.read.a d.read.l.length d.read.c, .slice d.write.a d.write.l.length d.write.c, .slice d.faults.a d.faults.l.length d.faults.c], .slice m.a m.l.length m.c, .int .i64 5] W (Sm W)) := hD (fun m W _ hm hW => by
  rcases hm with rfl | rfl
  · exact sets5_any ⟨d.kind, 4, d.mode, d.read, d.write, d.faults⟩ d.read W (hr1.below hW.1) hu1 hd
  · exact sets5_any ⟨d.kind, 4, d.mode, d.read, d.write, d.faults⟩ d.write W (hr2.below hW.1) hu2 hd)
 have HM : Hid (∀ (W : World), Below w.heap.size w W → Calls Tryz.prog 55 #[.int .i64 5, .slice d.faults.a d.faults.l.length d.faults.c] W (Sm W)) := hD (fun W hW => made5_any _ _ _ W (hr3.below hW))
 have H0 := hD (Of5.new d w)
 clear hr1 hu1 hr2 hu2 hr3
 have c0 := H0.out.cells 1 _ rfl
 have l0 : w.heap.size < (World.heap ((w.alloc (.cells #[.int .u8 (d.kind : Int), .int .u8 4, .int .u8 (d.mode : Int), .slice d.read.a d.read.l.length d.read.c, .slice d.write.a d.write.l.length d.write.c, .slice d.faults.a d.faults.l.length d.faults.c] 74)).alloc (.cells #[.string ⟨#[]⟩, .int .i64 0, .int .u16 0, .slice none 0 0, .slice none 0 0, .slice none 0 0] 77))).size := by have := H0.out.lt; omega
 have k0 : (0 : Int) ≤ (d.kind : Int) := by omega
 have k1 : (d.kind : Int) < 256 := by omega
 go_enter Tryz.func23, Tryz.ntmps23
 go_upto_region 2 with fail
 clear c0 l0
 refine wp_region_noPanic ?_
 have HX : Hid (Of5 d w ((w.alloc (.cells #[.int .u8 (d.kind : Int), .int .u8 4, .int .u8 (d.mode : Int), .slice d.read.a d.read.l.length d.read.c, .slice d.write.a d.write.l.length d.write.c, .slice d.faults.a d.faults.l.length d.faults.c] 74)).alloc (.cells #[.string ⟨#[]⟩, .int .i64 0, .int .u16 0, .slice none 0 0, .slice none 0 0, .slice none 0 0] 77)).drew) := hD (H0.out.below (Below.refl _ _).drew)
 generalize hv : ((w.alloc (.cells #[.int .u8 (d.kind : Int), .int .u8 4, .int .u8 (d.mode : Int), .slice d.read.a d.read.l.length d.read.c, .slice d.write.a d.write.l.length d.write.c, .slice d.faults.a d.faults.l.length d.faults.c] 74)).alloc (.cells #[.string ⟨#[]⟩, .int .i64 0, .int .u16 0, .slice none 0 0, .slice none 0 0, .slice none 0 0] 77)).drew = v0 at HX
 have hS0 : Below w.heap.size w v0 ∧ w.heap.size + 1 < (World.heap v0).size ∧ World.cell? v0 ⟨w.heap.size, 0, none⟩ = some (.int .u8 (d.kind : Int)) ∧ World.cell? v0 ⟨w.heap.size, 1, none⟩ = some (.int .u8 4) ∧ World.cell? v0 ⟨w.heap.size, 2, none⟩ = some (.int .u8 (d.mode : Int)) ∧ World.cell? v0 ⟨w.heap.size, 3, none⟩ = some (.slice d.read.a d.read.l.length d.read.c) ∧ World.cell? v0 ⟨w.heap.size, 4, none⟩ = some (.slice d.write.a d.write.l.length d.write.c) ∧ World.cell? v0 ⟨w.heap.size, 5, none⟩ = some (.slice d.faults.a d.faults.l.length d.faults.c) := ⟨HX.out.1, HX.out.2, HX.out.3 0 _ rfl, HX.out.3 1 _ rfl, HX.out.3 2 _ rfl, HX.out.3 3 _ rfl, HX.out.3 4 _ rfl, HX.out.3 5 _ rfl⟩
 refine wp_region_held_drew (S := fun W => Below w.heap.size w W ∧ w.heap.size + 1 < (World.heap W).size ∧ World.cell? W ⟨w.heap.size, 0, none⟩ = some (.int .u8 (d.kind : Int)) ∧ World.cell? W ⟨w.heap.size, 1, none⟩ = some (.int .u8 4) ∧ World.cell? W ⟨w.heap.size, 2, none⟩ = some (.int .u8 (d.mode : Int)) ∧ World.cell? W ⟨w.heap.size, 3, none⟩ = some (.slice d.read.a d.read.l.length d.read.c) ∧ World.cell? W ⟨w.heap.size, 4, none⟩ = some (.slice d.write.a d.write.l.length d.write.c) ∧ World.cell? W ⟨w.heap.size, 5, none⟩ = some (.slice d.faults.a d.faults.l.length d.faults.c)) (by kernel_rfl) (by rw [hv]; exact hS0) (fun hHeld => ?_)
 rw [hv] at hHeld ⊢
 clear hv
 refine takes [0,1,2,3,4,5,6,7,8,9,10,11,12,14,15,16,17] ?_
 refine wpAnyH_ready (rs := [13, 20]) (by kernel_rfl) (by simp) ?_
 refine AllReadyH.cons (o := _) rfl (fun K hK => ?_) (AllReadyH.cons (o := _) rfl (fun K hK => ?_) AllReadyH.nil)
 · go_simp
   go_at_call 54
   refine (HS.out d.read _ _ (.inl rfl) (by assumption)).mono ?_
   rintro e v1 ⟨⟨Ra, Rn, Rc, rfl⟩, hs⟩
   have HX := hD (HX.out.below hs)
   clear hs
   go_wp2_with fail
   have hS1 : Below w.heap.size w v1 ∧ w.heap.size + 1 < (World.heap v1).size ∧ World.cell? v1 ⟨w.heap.size, 0, none⟩ = some (.int .u8 (d.kind : Int)) ∧ World.cell? v1 ⟨w.heap.size, 1, none⟩ = some (.int .u8 4) ∧ World.cell? v1 ⟨w.heap.size, 2, none⟩ = some (.int .u8 (d.mode : Int)) ∧ World.cell? v1 ⟨w.heap.size, 3, none⟩ = some (.slice d.read.a d.read.l.length d.read.c) ∧ World.cell? v1 ⟨w.heap.size, 4, none⟩ = some (.slice d.write.a d.write.l.length d.write.c) ∧ World.cell? v1 ⟨w.heap.size, 5, none⟩ = some (.slice d.faults.a d.faults.l.length d.faults.c) := ⟨HX.out.1, HX.out.2, HX.out.3 0 _ rfl, HX.out.3 1 _ rfl, HX.out.3 2 _ rfl, HX.out.3 3 _ rfl, HX.out.3 4 _ rfl, HX.out.3 5 _ rfl⟩
   refine hK.out _ _ hS1 (fun hHeld => ?_)
   clear hK K
   try simp only [Act.put,qk1,qk2,qk3,qk4,qk5,qk6]
   refine wpAnyH_ready (rs := [18, 20]) (by kernel_rfl) (by simp) ?_
   refine AllReadyH.cons (o := _) rfl (fun K hK => ?_) (AllReadyH.cons (o := _) rfl (fun K hK => ?_) AllReadyH.nil)
   · go_simp
     go_at_call 54
     refine (HS.out d.write _ _ (.inr rfl) (by assumption)).mono ?_
     rintro e v2 ⟨⟨Wa, Wn, Wc, rfl⟩, hs⟩
     have HX := hD (HX.out.below hs)
     clear hs
     go_wp2_with fail
     have hS2 : Below w.heap.size w v2 ∧ w.heap.size + 1 < (World.heap v2).size ∧ World.cell? v2 ⟨w.heap.size, 0, none⟩ = some (.int .u8 (d.kind : Int)) ∧ World.cell? v2 ⟨w.heap.size, 1, none⟩ = some (.int .u8 4) ∧ World.cell? v2 ⟨w.heap.size, 2, none⟩ = some (.int .u8 (d.mode : Int)) ∧ World.cell? v2 ⟨w.heap.size, 3, none⟩ = some (.slice d.read.a d.read.l.length d.read.c) ∧ World.cell? v2 ⟨w.heap.size, 4, none⟩ = some (.slice d.write.a d.write.l.length d.write.c) ∧ World.cell? v2 ⟨w.heap.size, 5, none⟩ = some (.slice d.faults.a d.faults.l.length d.faults.c) := ⟨HX.out.1, HX.out.2, HX.out.3 0 _ rfl, HX.out.3 1 _ rfl, HX.out.3 2 _ rfl, HX.out.3 3 _ rfl, HX.out.3 4 _ rfl, HX.out.3 5 _ rfl⟩
     refine hK.out _ _ hS2 (fun hHeld => ?_)
     clear hK K
     try simp only [Act.put,qk1,qk2,qk3,qk4,qk5,qk6]
     refine takes [19] ?_
     refine tkr 20 rfl (fun K hK => ?_)
     go_simp
     have HGw : Hid (w.heap.size + 1 < (World.heap v2).size) := hD HX.out.lt
     have HG : Hid (Vz (World.alloc v2 (.cells #[.string ⟨#[]⟩, .int .i64 0, .int .u16 0, .slice none 0 0, .slice none 0 0, .slice none 0 0] 77)) (World.heap v2).size [.string ⟨#[]⟩, .int .i64 0, .int .u16 0, .slice none 0 0, .slice none 0 0, .slice none 0 0]) := hD (Vz.new v2 [.string ⟨#[]⟩, .int .i64 0, .int .u16 0, .slice none 0 0, .slice none 0 0, .slice none 0 0] 77)
     have HX := hD (HX.out.below (below_new v2 (.cells #[.string ⟨#[]⟩, .int .i64 0, .int .u16 0, .slice none 0 0, .slice none 0 0, .slice none 0 0] 77)))
     generalize World.alloc v2 (.cells #[.string ⟨#[]⟩, .int .i64 0, .int .u16 0, .slice none 0 0, .slice none 0 0, .slice none 0 0] 77) = v3 at HG HX ⊢
     generalize (World.heap v2).size = g at HG HGw ⊢
     have hS3 : Below w.heap.size w v3 ∧ w.heap.size + 1 < (World.heap v3).size ∧ World.cell? v3 ⟨w.heap.size, 0, none⟩ = some (.int .u8 (d.kind : Int)) ∧ World.cell? v3 ⟨w.heap.size, 1, none⟩ = some (.int .u8 4) ∧ World.cell? v3 ⟨w.heap.size, 2, none⟩ = some (.int .u8 (d.mode : Int)) ∧ World.cell? v3 ⟨w.heap.size, 3, none⟩ = some (.slice d.read.a d.read.l.length d.read.c) ∧ World.cell? v3 ⟨w.heap.size, 4, none⟩ = some (.slice d.write.a d.write.l.length d.write.c) ∧ World.cell? v3 ⟨w.heap.size, 5, none⟩ = some (.slice d.faults.a d.faults.l.length d.faults.c) := ⟨HX.out.1, HX.out.2, HX.out.3 0 _ rfl, HX.out.3 1 _ rfl, HX.out.3 2 _ rfl, HX.out.3 3 _ rfl, HX.out.3 4 _ rfl, HX.out.3 5 _ rfl⟩
     refine hK.out _ _ hS3 (fun hHeld => ?_)
     clear hK K
     try simp only [Act.put,qk1,qk2,qk3,qk4,qk5,qk6]
     generalize IntKind.i64.wrap (1 + IntKind.i64.wrap ((d.kind : Int).tmod 2)) = KK
     generalize IntKind.u16.wrap (IntKind.u16.wrap 32 - 1) = MM
     have z0 := HG.out.cells 0 _ rfl
     have z1 := HG.out.cells 1 _ rfl
     have z2 := HG.out.cells 2 _ rfl
     have z3 := HG.out.cells 3 _ rfl
     have z4 := HG.out.cells 4 _ rfl
     have z5 := HG.out.cells 5 _ rfl
     have f0 := HG.out.free 0 (by decide)
     have f1 := HG.out.free 1 (by decide)
     have f2 := HG.out.free 2 (by decide)
     have f3 := HG.out.free 3 (by decide)
     have f4 := HG.out.free 4 (by decide)
     have f5 := HG.out.free 5 (by decide)
     have lg := HG.out.lt
     refine tkr 21 rfl (fun K hK => ?_)
     go_simp
     have HX := hD ((((((HX.out.set HGw.out 0 (.string nm)).set HGw.out 1 (.int .i64 KK)).set HGw.out 2 (.int .u16 MM)).set HGw.out 3 (.slice Ra Rn Rc)).set HGw.out 4 (.slice Wa Wn Wc)).set HGw.out 5 (.slice none 0 0))
     have HG : Hid (Vz (World.setCell (World.setCell (World.setCell (World.setCell (World.setCell (World.setCell v3 ⟨g, 0, none⟩ (.string nm)) ⟨g, 1, none⟩ (.int .i64 KK)) ⟨g, 2, none⟩ (.int .u16 MM)) ⟨g, 3, none⟩ (.slice Ra Rn Rc)) ⟨g, 4, none⟩ (.slice Wa Wn Wc)) ⟨g, 5, none⟩ (.slice none 0 0)) g [.string nm, .int .i64 KK, .int .u16 MM, .slice Ra Rn Rc, .slice Wa Wn Wc, .slice none 0 0]) := hD (((((((HG.out.set 0 (.string nm)).set 1 (.int .i64 KK)).set 2 (.int .u16 MM)).set 3 (.slice Ra Rn Rc)).set 4 (.slice Wa Wn Wc)).set 5 (.slice none 0 0)).eq rfl)
     clear z0 z1 z2 z3 z4 z5 f0 f1 f2 f3 f4 f5 lg
     generalize (World.setCell (World.setCell (World.setCell (World.setCell (World.setCell (World.setCell v3 ⟨g, 0, none⟩ (.string nm)) ⟨g, 1, none⟩ (.int .i64 KK)) ⟨g, 2, none⟩ (.int .u16 MM)) ⟨g, 3, none⟩ (.slice Ra Rn Rc)) ⟨g, 4, none⟩ (.slice Wa Wn Wc)) ⟨g, 5, none⟩ (.slice none 0 0)) = v4 at HX HG ⊢
     have hS4 : Below w.heap.size w v4 ∧ w.heap.size + 1 < (World.heap v4).size ∧ World.cell? v4 ⟨w.heap.size, 0, none⟩ = some (.int .u8 (d.kind : Int)) ∧ World.cell? v4 ⟨w.heap.size, 1, none⟩ = some (.int .u8 4) ∧ World.cell? v4 ⟨w.heap.size, 2, none⟩ = some (.int .u8 (d.mode : Int)) ∧ World.cell? v4 ⟨w.heap.size, 3, none⟩ = some (.slice d.read.a d.read.l.length d.read.c) ∧ World.cell? v4 ⟨w.heap.size, 4, none⟩ = some (.slice d.write.a d.write.l.length d.write.c) ∧ World.cell? v4 ⟨w.heap.size, 5, none⟩ = some (.slice d.faults.a d.faults.l.length d.faults.c) := ⟨HX.out.1, HX.out.2, HX.out.3 0 _ rfl, HX.out.3 1 _ rfl, HX.out.3 2 _ rfl, HX.out.3 3 _ rfl, HX.out.3 4 _ rfl, HX.out.3 5 _ rfl⟩
     refine hK.out _ _ hS4 (fun hHeld => ?_)
     clear hK K
     try simp only [Act.put,qk1,qk2,qk3,qk4,qk5,qk6]
     refine wpAnyH_done (by kernel_rfl) ?_ _
     refine NoPanic.normal ?_
     clear hS0 hS1 hS2 hS3 hS4 hHeld
     have b5 := HX.out.cells 5 _ rfl
     have bl : w.heap.size < (World.heap v4).size := by have := HX.out.lt; omega
     go_wp2_with fail
     refine (HM.out _ HX.out.low).mono ?_
     rintro e v5 ⟨⟨Fa, Fn, Fc, rfl⟩, hs⟩
     have HX := hD (HX.out.below hs)
     have HG := hD (HG.out.below hs)
     clear hs b5 bl
     have z0 := HG.out.cells 0 _ rfl
     have z1 := HG.out.cells 1 _ rfl
     have z2 := HG.out.cells 2 _ rfl
     have z3 := HG.out.cells 3 _ rfl
     have z4 := HG.out.cells 4 _ rfl
     have z5 := HG.out.cells 5 _ rfl
     have y0 := HX.out.res.cells 0 _ rfl
     have y1 := HX.out.res.cells 1 _ rfl
     have y2 := HX.out.res.cells 2 _ rfl
     have y3 := HX.out.res.cells 3 _ rfl
     have y4 := HX.out.res.cells 4 _ rfl
     have y5 := HX.out.res.cells 5 _ rfl
     have e0 := HX.out.res.free 0 (by decide)
     have e1 := HX.out.res.free 1 (by decide)
     have e2 := HX.out.res.free 2 (by decide)
     have e3 := HX.out.res.free 3 (by decide)
     have e4 := HX.out.res.free 4 (by decide)
     have e5 := HX.out.res.free 5 (by decide)
     have f5 := HG.out.free 5 (by simp)
     have lg := HG.out.lt
     have lr := HX.out.res.lt
     have hne : g ≠ w.heap.size + 1 := by have := HGw.out; omega
     have hne2 : w.heap.size + 1 ≠ g := by have := HGw.out; omega
     go_wp2_with fail
     refine bodyPost_ret (v := .agg #[.string nm, .int .i64 KK, .int .u16 MM, .slice Ra Rn Rc, .slice Wa Wn Wc, .slice Fa Fn Fc]) (by simp [results, Tryz.results23, go_sem, y0, y1, y2, y3, y4, y5]) rfl ⟨⟨nm, KK, MM, Ra, Wa, Fa, Rn, Rc, Wn, Wc, Fn, Fc, rfl⟩, ?_⟩
     have hlow := HX.out.low.setCell (p := ⟨g, 5, none⟩) (by show w.heap.size ≤ g; have := HGw.out; omega) (.slice Fa Fn Fc)
     exact (((((hlow.setCell (by show w.heap.size ≤ w.heap.size + 1; omega) _).setCell (by show w.heap.size ≤ w.heap.size + 1; omega) _).setCell (by show w.heap.size ≤ w.heap.size + 1; omega) _).setCell (by show w.heap.size ≤ w.heap.size + 1; omega) _).setCell (by show w.heap.size ≤ w.heap.size + 1; omega) _).setCell (by show w.heap.size ≤ w.heap.size + 1; omega) _
   · go_simp
     have HGw : Hid (w.heap.size + 1 < (World.heap v1).size) := hD HX.out.lt
     have HG : Hid (Vz (World.alloc v1 (.cells #[.string ⟨#[]⟩, .int .i64 0, .int .u16 0, .slice none 0 0, .slice none 0 0, .slice none 0 0] 77)) (World.heap v1).size [.string ⟨#[]⟩, .int .i64 0, .int .u16 0, .slice none 0 0, .slice none 0 0, .slice none 0 0]) := hD (Vz.new v1 [.string ⟨#[]⟩, .int .i64 0, .int .u16 0, .slice none 0 0, .slice none 0 0, .slice none 0 0] 77)
     have HX := hD (HX.out.below (below_new v1 (.cells #[.string ⟨#[]⟩, .int .i64 0, .int .u16 0, .slice none 0 0, .slice none 0 0, .slice none 0 0] 77)))
     generalize World.alloc v1 (.cells #[.string ⟨#[]⟩, .int .i64 0, .int .u16 0, .slice none 0 0, .slice none 0 0, .slice none 0 0] 77) = v2 at HG HX ⊢
     generalize (World.heap v1).size = g at HG HGw ⊢
     have hS2 : Below w.heap.size w v2 ∧ w.heap.size + 1 < (World.heap v2).size ∧ World.cell? v2 ⟨w.heap.size, 0, none⟩ = some (.int .u8 (d.kind : Int)) ∧ World.cell? v2 ⟨w.heap.size, 1, none⟩ = some (.int .u8 4) ∧ World.cell? v2 ⟨w.heap.size, 2, none⟩ = some (.int .u8 (d.mode : Int)) ∧ World.cell? v2 ⟨w.heap.size, 3, none⟩ = some (.slice d.read.a d.read.l.length d.read.c) ∧ World.cell? v2 ⟨w.heap.size, 4, none⟩ = some (.slice d.write.a d.write.l.length d.write.c) ∧ World.cell? v2 ⟨w.heap.size, 5, none⟩ = some (.slice d.faults.a d.faults.l.length d.faults.c) := ⟨HX.out.1, HX.out.2, HX.out.3 0 _ rfl, HX.out.3 1 _ rfl, HX.out.3 2 _ rfl, HX.out.3 3 _ rfl, HX.out.3 4 _ rfl, HX.out.3 5 _ rfl⟩
     refine hK.out _ _ hS2 (fun hHeld => ?_)
     clear hK K
     try simp only [Act.put,qk1,qk2,qk3,qk4,qk5,qk6]
     refine tkr 18 rfl (fun K hK => ?_)
     go_simp
     go_at_call 54
     refine (HS.out d.write _ _ (.inr rfl) (by assumption)).mono ?_
     rintro e v3 ⟨⟨Wa, Wn, Wc, rfl⟩, hs⟩
     have HX := hD (HX.out.below hs)
     have HG := hD (HG.out.below hs)
     clear hs
     go_wp2_with fail
     have hS3 : Below w.heap.size w v3 ∧ w.heap.size + 1 < (World.heap v3).size ∧ World.cell? v3 ⟨w.heap.size, 0, none⟩ = some (.int .u8 (d.kind : Int)) ∧ World.cell? v3 ⟨w.heap.size, 1, none⟩ = some (.int .u8 4) ∧ World.cell? v3 ⟨w.heap.size, 2, none⟩ = some (.int .u8 (d.mode : Int)) ∧ World.cell? v3 ⟨w.heap.size, 3, none⟩ = some (.slice d.read.a d.read.l.length d.read.c) ∧ World.cell? v3 ⟨w.heap.size, 4, none⟩ = some (.slice d.write.a d.write.l.length d.write.c) ∧ World.cell? v3 ⟨w.heap.size, 5, none⟩ = some (.slice d.faults.a d.faults.l.length d.faults.c) := ⟨HX.out.1, HX.out.2, HX.out.3 0 _ rfl, HX.out.3 1 _ rfl, HX.out.3 2 _ rfl, HX.out.3 3 _ rfl, HX.out.3 4 _ rfl, HX.out.3 5 _ rfl⟩
     refine hK.out _ _ hS3 (fun hHeld => ?_)
     clear hK K
     try simp only [Act.put,qk1,qk2,qk3,qk4,qk5,qk6]
     refine takes [19] ?_
     generalize IntKind.i64.wrap (1 + IntKind.i64.wrap ((d.kind : Int).tmod 2)) = KK
     generalize IntKind.u16.wrap (IntKind.u16.wrap 32 - 1) = MM
     have z0 := HG.out.cells 0 _ rfl
     have z1 := HG.out.cells 1 _ rfl
     have z2 := HG.out.cells 2 _ rfl
     have z3 := HG.out.cells 3 _ rfl
     have z4 := HG.out.cells 4 _ rfl
     have z5 := HG.out.cells 5 _ rfl
     have f0 := HG.out.free 0 (by decide)
     have f1 := HG.out.free 1 (by decide)
     have f2 := HG.out.free 2 (by decide)
     have f3 := HG.out.free 3 (by decide)
     have f4 := HG.out.free 4 (by decide)
     have f5 := HG.out.free 5 (by decide)
     have lg := HG.out.lt
     refine tkr 21 rfl (fun K hK => ?_)
     go_simp
     have HX := hD ((((((HX.out.set HGw.out 0 (.string nm)).set HGw.out 1 (.int .i64 KK)).set HGw.out 2 (.int .u16 MM)).set HGw.out 3 (.slice Ra Rn Rc)).set HGw.out 4 (.slice Wa Wn Wc)).set HGw.out 5 (.slice none 0 0))
     have HG : Hid (Vz (World.setCell (World.setCell (World.setCell (World.setCell (World.setCell (World.setCell v3 ⟨g, 0, none⟩ (.string nm)) ⟨g, 1, none⟩ (.int .i64 KK)) ⟨g, 2, none⟩ (.int .u16 MM)) ⟨g, 3, none⟩ (.slice Ra Rn Rc)) ⟨g, 4, none⟩ (.slice Wa Wn Wc)) ⟨g, 5, none⟩ (.slice none 0 0)) g [.string nm, .int .i64 KK, .int .u16 MM, .slice Ra Rn Rc, .slice Wa Wn Wc, .slice none 0 0]) := hD (((((((HG.out.set 0 (.string nm)).set 1 (.int .i64 KK)).set 2 (.int .u16 MM)).set 3 (.slice Ra Rn Rc)).set 4 (.slice Wa Wn Wc)).set 5 (.slice none 0 0)).eq rfl)
     clear z0 z1 z2 z3 z4 z5 f0 f1 f2 f3 f4 f5 lg
     generalize (World.setCell (World.setCell (World.setCell (World.setCell (World.setCell (World.setCell v3 ⟨g, 0, none⟩ (.string nm)) ⟨g, 1, none⟩ (.int .i64 KK)) ⟨g, 2, none⟩ (.int .u16 MM)) ⟨g, 3, none⟩ (.slice Ra Rn Rc)) ⟨g, 4, none⟩ (.slice Wa Wn Wc)) ⟨g, 5, none⟩ (.slice none 0 0)) = v4 at HX HG ⊢
     have hS4 : Below w.heap.size w v4 ∧ w.heap.size + 1 < (World.heap v4).size ∧ World.cell? v4 ⟨w.heap.size, 0, none⟩ = some (.int .u8 (d.kind : Int)) ∧ World.cell? v4 ⟨w.heap.size, 1, none⟩ = some (.int .u8 4) ∧ World.cell? v4 ⟨w.heap.size, 2, none⟩ = some (.int .u8 (d.mode : Int)) ∧ World.cell? v4 ⟨w.heap.size, 3, none⟩ = some (.slice d.read.a d.read.l.length d.read.c) ∧ World.cell? v4 ⟨w.heap.size, 4, none⟩ = some (.slice d.write.a d.write.l.length d.write.c) ∧ World.cell? v4 ⟨w.heap.size, 5, none⟩ = some (.slice d.faults.a d.faults.l.length d.faults.c) := ⟨HX.out.1, HX.out.2, HX.out.3 0 _ rfl, HX.out.3 1 _ rfl, HX.out.3 2 _ rfl, HX.out.3 3 _ rfl, HX.out.3 4 _ rfl, HX.out.3 5 _ rfl⟩
     refine hK.out _ _ hS4 (fun hHeld => ?_)
     clear hK K
     try simp only [Act.put,qk1,qk2,qk3,qk4,qk5,qk6]
     refine wpAnyH_done (by kernel_rfl) ?_ _
     refine NoPanic.normal ?_
     clear hS0 hS1 hS2 hS3 hS4 hHeld
     have b5 := HX.out.cells 5 _ rfl
     have bl : w.heap.size < (World.heap v4).size := by have := HX.out.lt; omega
     go_wp2_with fail
     refine (HM.out _ HX.out.low).mono ?_
     rintro e v5 ⟨⟨Fa, Fn, Fc, rfl⟩, hs⟩
     have HX := hD (HX.out.below hs)
     have HG := hD (HG.out.below hs)
     clear hs b5 bl
     have z0 := HG.out.cells 0 _ rfl
     have z1 := HG.out.cells 1 _ rfl
     have z2 := HG.out.cells 2 _ rfl
     have z3 := HG.out.cells 3 _ rfl
     have z4 := HG.out.cells 4 _ rfl
     have z5 := HG.out.cells 5 _ rfl
     have y0 := HX.out.res.cells 0 _ rfl
     have y1 := HX.out.res.cells 1 _ rfl
     have y2 := HX.out.res.cells 2 _ rfl
     have y3 := HX.out.res.cells 3 _ rfl
     have y4 := HX.out.res.cells 4 _ rfl
     have y5 := HX.out.res.cells 5 _ rfl
     have e0 := HX.out.res.free 0 (by decide)
     have e1 := HX.out.res.free 1 (by decide)
     have e2 := HX.out.res.free 2 (by decide)
     have e3 := HX.out.res.free 3 (by decide)
     have e4 := HX.out.res.free 4 (by decide)
     have e5 := HX.out.res.free 5 (by decide)
     have f5 := HG.out.free 5 (by simp)
     have lg := HG.out.lt
     have lr := HX.out.res.lt
     have hne : g ≠ w.heap.size + 1 := by have := HGw.out; omega
     have hne2 : w.heap.size + 1 ≠ g := by have := HGw.out; omega
     go_wp2_with fail
     refine bodyPost_ret (v := .agg #[.string nm, .int .i64 KK, .int .u16 MM, .slice Ra Rn Rc, .slice Wa Wn Wc, .slice Fa Fn Fc]) (by simp [results, Tryz.results23, go_sem, y0, y1, y2, y3, y4, y5]) rfl ⟨⟨nm, KK, MM, Ra, Wa, Fa, Rn, Rc, Wn, Wc, Fn, Fc, rfl⟩, ?_⟩
     have hlow := HX.out.low.setCell (p := ⟨g, 5, none⟩) (by show w.heap.size ≤ g; have := HGw.out; omega) (.slice Fa Fn Fc)
     exact (((((hlow.setCell (by show w.heap.size ≤ w.heap.size + 1; omega) _).setCell (by show w.heap.size ≤ w.heap.size + 1; omega) _).setCell (by show w.heap.size ≤ w.heap.size + 1; omega) _).setCell (by show w.heap.size ≤ w.heap.size + 1; omega) _).setCell (by show w.heap.size ≤ w.heap.size + 1; omega) _).setCell (by show w.heap.size ≤ w.heap.size + 1; omega) _
 · go_simp
   have HGw : Hid (w.heap.size + 1 < (World.heap v0).size) := hD HX.out.lt
   have HG : Hid (Vz (World.alloc v0 (.cells #[.string ⟨#[]⟩, .int .i64 0, .int .u16 0, .slice none 0 0, .slice none 0 0, .slice none 0 0] 77)) (World.heap v0).size [.string ⟨#[]⟩, .int .i64 0, .int .u16 0, .slice none 0 0, .slice none 0 0, .slice none 0 0]) := hD (Vz.new v0 [.string ⟨#[]⟩, .int .i64 0, .int .u16 0, .slice none 0 0, .slice none 0 0, .slice none 0 0] 77)
   have HX := hD (HX.out.below (below_new v0 (.cells #[.string ⟨#[]⟩, .int .i64 0, .int .u16 0, .slice none 0 0, .slice none 0 0, .slice none 0 0] 77)))
   generalize World.alloc v0 (.cells #[.string ⟨#[]⟩, .int .i64 0, .int .u16 0, .slice none 0 0, .slice none 0 0, .slice none 0 0] 77) = v1 at HG HX ⊢
   generalize (World.heap v0).size = g at HG HGw ⊢
   have hS1 : Below w.heap.size w v1 ∧ w.heap.size + 1 < (World.heap v1).size ∧ World.cell? v1 ⟨w.heap.size, 0, none⟩ = some (.int .u8 (d.kind : Int)) ∧ World.cell? v1 ⟨w.heap.size, 1, none⟩ = some (.int .u8 4) ∧ World.cell? v1 ⟨w.heap.size, 2, none⟩ = some (.int .u8 (d.mode : Int)) ∧ World.cell? v1 ⟨w.heap.size, 3, none⟩ = some (.slice d.read.a d.read.l.length d.read.c) ∧ World.cell? v1 ⟨w.heap.size, 4, none⟩ = some (.slice d.write.a d.write.l.length d.write.c) ∧ World.cell? v1 ⟨w.heap.size, 5, none⟩ = some (.slice d.faults.a d.faults.l.length d.faults.c) := ⟨HX.out.1, HX.out.2, HX.out.3 0 _ rfl, HX.out.3 1 _ rfl, HX.out.3 2 _ rfl, HX.out.3 3 _ rfl, HX.out.3 4 _ rfl, HX.out.3 5 _ rfl⟩
   refine hK.out _ _ hS1 (fun hHeld => ?_)
   clear hK K
   try simp only [Act.put,qk1,qk2,qk3,qk4,qk5,qk6]
   refine tkr 13 rfl (fun K hK => ?_)
   go_simp
   go_at_call 54
   refine (HS.out d.read _ _ (.inl rfl) (by assumption)).mono ?_
   rintro e v2 ⟨⟨Ra, Rn, Rc, rfl⟩, hs⟩
   have HX := hD (HX.out.below hs)
   have HG := hD (HG.out.below hs)
   clear hs
   go_wp2_with fail
   have hS2 : Below w.heap.size w v2 ∧ w.heap.size + 1 < (World.heap v2).size ∧ World.cell? v2 ⟨w.heap.size, 0, none⟩ = some (.int .u8 (d.kind : Int)) ∧ World.cell? v2 ⟨w.heap.size, 1, none⟩ = some (.int .u8 4) ∧ World.cell? v2 ⟨w.heap.size, 2, none⟩ = some (.int .u8 (d.mode : Int)) ∧ World.cell? v2 ⟨w.heap.size, 3, none⟩ = some (.slice d.read.a d.read.l.length d.read.c) ∧ World.cell? v2 ⟨w.heap.size, 4, none⟩ = some (.slice d.write.a d.write.l.length d.write.c) ∧ World.cell? v2 ⟨w.heap.size, 5, none⟩ = some (.slice d.faults.a d.faults.l.length d.faults.c) := ⟨HX.out.1, HX.out.2, HX.out.3 0 _ rfl, HX.out.3 1 _ rfl, HX.out.3 2 _ rfl, HX.out.3 3 _ rfl, HX.out.3 4 _ rfl, HX.out.3 5 _ rfl⟩
   refine hK.out _ _ hS2 (fun hHeld => ?_)
   clear hK K
   try simp only [Act.put,qk1,qk2,qk3,qk4,qk5,qk6]
   refine tkr 18 rfl (fun K hK => ?_)
   go_simp
   go_at_call 54
   refine (HS.out d.write _ _ (.inr rfl) (by assumption)).mono ?_
   rintro e v3 ⟨⟨Wa, Wn, Wc, rfl⟩, hs⟩
   have HX := hD (HX.out.below hs)
   have HG := hD (HG.out.below hs)
   clear hs
   go_wp2_with fail
   have hS3 : Below w.heap.size w v3 ∧ w.heap.size + 1 < (World.heap v3).size ∧ World.cell? v3 ⟨w.heap.size, 0, none⟩ = some (.int .u8 (d.kind : Int)) ∧ World.cell? v3 ⟨w.heap.size, 1, none⟩ = some (.int .u8 4) ∧ World.cell? v3 ⟨w.heap.size, 2, none⟩ = some (.int .u8 (d.mode : Int)) ∧ World.cell? v3 ⟨w.heap.size, 3, none⟩ = some (.slice d.read.a d.read.l.length d.read.c) ∧ World.cell? v3 ⟨w.heap.size, 4, none⟩ = some (.slice d.write.a d.write.l.length d.write.c) ∧ World.cell? v3 ⟨w.heap.size, 5, none⟩ = some (.slice d.faults.a d.faults.l.length d.faults.c) := ⟨HX.out.1, HX.out.2, HX.out.3 0 _ rfl, HX.out.3 1 _ rfl, HX.out.3 2 _ rfl, HX.out.3 3 _ rfl, HX.out.3 4 _ rfl, HX.out.3 5 _ rfl⟩
   refine hK.out _ _ hS3 (fun hHeld => ?_)
   clear hK K
   try simp only [Act.put,qk1,qk2,qk3,qk4,qk5,qk6]
   refine takes [19] ?_
   generalize IntKind.i64.wrap (1 + IntKind.i64.wrap ((d.kind : Int).tmod 2)) = KK
   generalize IntKind.u16.wrap (IntKind.u16.wrap 32 - 1) = MM
   have z0 := HG.out.cells 0 _ rfl
   have z1 := HG.out.cells 1 _ rfl
   have z2 := HG.out.cells 2 _ rfl
   have z3 := HG.out.cells 3 _ rfl
   have z4 := HG.out.cells 4 _ rfl
   have z5 := HG.out.cells 5 _ rfl
   have f0 := HG.out.free 0 (by decide)
   have f1 := HG.out.free 1 (by decide)
   have f2 := HG.out.free 2 (by decide)
   have f3 := HG.out.free 3 (by decide)
   have f4 := HG.out.free 4 (by decide)
   have f5 := HG.out.free 5 (by decide)
   have lg := HG.out.lt
   refine tkr 21 rfl (fun K hK => ?_)
   go_simp
   have HX := hD ((((((HX.out.set HGw.out 0 (.string nm)).set HGw.out 1 (.int .i64 KK)).set HGw.out 2 (.int .u16 MM)).set HGw.out 3 (.slice Ra Rn Rc)).set HGw.out 4 (.slice Wa Wn Wc)).set HGw.out 5 (.slice none 0 0))
   have HG : Hid (Vz (World.setCell (World.setCell (World.setCell (World.setCell (World.setCell (World.setCell v3 ⟨g, 0, none⟩ (.string nm)) ⟨g, 1, none⟩ (.int .i64 KK)) ⟨g, 2, none⟩ (.int .u16 MM)) ⟨g, 3, none⟩ (.slice Ra Rn Rc)) ⟨g, 4, none⟩ (.slice Wa Wn Wc)) ⟨g, 5, none⟩ (.slice none 0 0)) g [.string nm, .int .i64 KK, .int .u16 MM, .slice Ra Rn Rc, .slice Wa Wn Wc, .slice none 0 0]) := hD (((((((HG.out.set 0 (.string nm)).set 1 (.int .i64 KK)).set 2 (.int .u16 MM)).set 3 (.slice Ra Rn Rc)).set 4 (.slice Wa Wn Wc)).set 5 (.slice none 0 0)).eq rfl)
   clear z0 z1 z2 z3 z4 z5 f0 f1 f2 f3 f4 f5 lg
   generalize (World.setCell (World.setCell (World.setCell (World.setCell (World.setCell (World.setCell v3 ⟨g, 0, none⟩ (.string nm)) ⟨g, 1, none⟩ (.int .i64 KK)) ⟨g, 2, none⟩ (.int .u16 MM)) ⟨g, 3, none⟩ (.slice Ra Rn Rc)) ⟨g, 4, none⟩ (.slice Wa Wn Wc)) ⟨g, 5, none⟩ (.slice none 0 0)) = v4 at HX HG ⊢
   have hS4 : Below w.heap.size w v4 ∧ w.heap.size + 1 < (World.heap v4).size ∧ World.cell? v4 ⟨w.heap.size, 0, none⟩ = some (.int .u8 (d.kind : Int)) ∧ World.cell? v4 ⟨w.heap.size, 1, none⟩ = some (.int .u8 4) ∧ World.cell? v4 ⟨w.heap.size, 2, none⟩ = some (.int .u8 (d.mode : Int)) ∧ World.cell? v4 ⟨w.heap.size, 3, none⟩ = some (.slice d.read.a d.read.l.length d.read.c) ∧ World.cell? v4 ⟨w.heap.size, 4, none⟩ = some (.slice d.write.a d.write.l.length d.write.c) ∧ World.cell? v4 ⟨w.heap.size, 5, none⟩ = some (.slice d.faults.a d.faults.l.length d.faults.c) := ⟨HX.out.1, HX.out.2, HX.out.3 0 _ rfl, HX.out.3 1 _ rfl, HX.out.3 2 _ rfl, HX.out.3 3 _ rfl, HX.out.3 4 _ rfl, HX.out.3 5 _ rfl⟩
   refine hK.out _ _ hS4 (fun hHeld => ?_)
   clear hK K
   try simp only [Act.put,qk1,qk2,qk3,qk4,qk5,qk6]
   refine wpAnyH_done (by kernel_rfl) ?_ _
   refine NoPanic.normal ?_
   clear hS0 hS1 hS2 hS3 hS4 hHeld
   have b5 := HX.out.cells 5 _ rfl
   have bl : w.heap.size < (World.heap v4).size := by have := HX.out.lt; omega
   go_wp2_with fail
   refine (HM.out _ HX.out.low).mono ?_
   rintro e v5 ⟨⟨Fa, Fn, Fc, rfl⟩, hs⟩
   have HX := hD (HX.out.below hs)
   have HG := hD (HG.out.below hs)
   clear hs b5 bl
   have z0 := HG.out.cells 0 _ rfl
   have z1 := HG.out.cells 1 _ rfl
   have z2 := HG.out.cells 2 _ rfl
   have z3 := HG.out.cells 3 _ rfl
   have z4 := HG.out.cells 4 _ rfl
   have z5 := HG.out.cells 5 _ rfl
   have y0 := HX.out.res.cells 0 _ rfl
   have y1 := HX.out.res.cells 1 _ rfl
   have y2 := HX.out.res.cells 2 _ rfl
   have y3 := HX.out.res.cells 3 _ rfl
   have y4 := HX.out.res.cells 4 _ rfl
   have y5 := HX.out.res.cells 5 _ rfl
   have e0 := HX.out.res.free 0 (by decide)
   have e1 := HX.out.res.free 1 (by decide)
   have e2 := HX.out.res.free 2 (by decide)
   have e3 := HX.out.res.free 3 (by decide)
   have e4 := HX.out.res.free 4 (by decide)
   have e5 := HX.out.res.free 5 (by decide)
   have f5 := HG.out.free 5 (by simp)
   have lg := HG.out.lt
   have lr := HX.out.res.lt
   have hne : g ≠ w.heap.size + 1 := by have := HGw.out; omega
   have hne2 : w.heap.size + 1 ≠ g := by have := HGw.out; omega
   go_wp2_with fail
   refine bodyPost_ret (v := .agg #[.string nm, .int .i64 KK, .int .u16 MM, .slice Ra Rn Rc, .slice Wa Wn Wc, .slice Fa Fn Fc]) (by simp [results, Tryz.results23, go_sem, y0, y1, y2, y3, y4, y5]) rfl ⟨⟨nm, KK, MM, Ra, Wa, Fa, Rn, Rc, Wn, Wc, Fn, Fc, rfl⟩, ?_⟩
   have hlow := HX.out.low.setCell (p := ⟨g, 5, none⟩) (by show w.heap.size ≤ g; have := HGw.out; omega) (.slice Fa Fn Fc)
   exact (((((hlow.setCell (by show w.heap.size ≤ w.heap.size + 1; omega) _).setCell (by show w.heap.size ≤ w.heap.size + 1; omega) _).setCell (by show w.heap.size ≤ w.heap.size + 1; omega) _).setCell (by show w.heap.size ≤ w.heap.size + 1; omega) _).setCell (by show w.heap.size ≤ w.heap.size + 1; omega) _).setCell (by show w.heap.size ≤ w.heap.size + 1; omega) _
end Go.Proofs.YtikpcebhcnjkhaaGreatDoor
