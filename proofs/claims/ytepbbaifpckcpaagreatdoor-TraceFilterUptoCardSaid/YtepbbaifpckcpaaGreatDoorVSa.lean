/- The source's block, and the contracts of message.take. -/
import Derived.Laws.Bits64b
import Derived.Deep.MidRow
import Derived.Deep.RegionHeld3
import Derived.Deep.RegionWith
import Derived.Laws.Rows
import Derived.Laws.IdiomCopy
import Derived.Deep.Cut
import Derived.Deep.CutRange
import Derived.Maps.AppendAt
import Derived.Test.YtepbbaifpckcpaaGreatDoorVPl
import Derived.Test.YtepbbaifpckcpaaGreatDoorVVa
import Derived.Test.YtepbbaifpckcpaaGreatDoorVWg
namespace Go.Proofs.YtepbbaifpckcpaaGreatDoor
open Go.RowKit
structure Ss (w : World) (g : Nat) (s : Sc) : Prop where
 lt : g < w.heap.size
 c0 : w.cell? ⟨g, 0, none⟩ = some (.string ⟨s.rest.toArray⟩)
 c1 : w.cell? ⟨g, 1, none⟩ = some (.bool s.bad)
 f0 : w.frozen? ⟨g, 0, none⟩ = false
 f1 : w.frozen? ⟨g, 1, none⟩ = false
theorem Ss.below {w w' : World} {g : Nat} {s : Sc} (h : Ss w g s) (hb : Below w.heap.size w w') : Ss w' g s where
 lt := Nat.lt_of_lt_of_le h.lt hb.size
 c0 := (hb.cell (p := ⟨g, 0, none⟩) h.lt).trans h.c0
 c1 := (hb.cell (p := ⟨g, 1, none⟩) h.lt).trans h.c1
 f0 := (hb.frozen (p := ⟨g, 0, none⟩) h.lt).trans h.f0
 f1 := (hb.frozen (p := ⟨g, 1, none⟩) h.lt).trans h.f1
theorem Ss.set0 {w : World} {g : Nat} {s : Sc} (h : Ss w g s) (r : List UInt8) : Ss (w.setCell ⟨g, 0, none⟩ (.string ⟨r.toArray⟩)) g ⟨r, s.bad⟩ where
 lt := by simpa using h.lt
 c0 := World.cell?_setCell_same _ _ _ h.c0
 c1 := (World.cell?_setCell_other _ _ _ _ (by simp)).trans h.c1
 f0 := (frz_set _ _ _ _).trans h.f0
 f1 := (frz_set _ _ _ _).trans h.f1
theorem Ss.set1 {w : World} {g : Nat} {s : Sc} (h : Ss w g s) (b : Bool) : Ss (w.setCell ⟨g, 1, none⟩ (.bool b)) g ⟨s.rest, b⟩ where
 lt := by simpa using h.lt
 c0 := (World.cell?_setCell_other _ _ _ _ (by simp)).trans h.c0
 c1 := World.cell?_setCell_same _ _ _ h.c1
 f0 := (frz_set _ _ _ _).trans h.f0
 f1 := (frz_set _ _ _ _).trans h.f1
def SsTo (w : World) (g : Nat) (s : Sc) (w' : World) : Prop := w.grownBy w' (some g) ∧ Ss w' g s
theorem SsTo.refl {w : World} {g : Nat} {s : Sc} (h : Ss w g s) : SsTo w g s w := ⟨grown_below (Below.refl _ _) _, h⟩
theorem SsTo.trans {w w1 w2 : World} {g : Nat} {s s' : Sc} (h : SsTo w g s w1) (k : SsTo w1 g s' w2) : SsTo w g s' w2 := ⟨h.1.trans k.1, k.2⟩
theorem SsTo.below {w w1 w2 : World} {g : Nat} {s : Sc} (h : SsTo w g s w1) (k : Below w1.heap.size w1 w2) : SsTo w g s w2 := ⟨h.1.trans (grown_below k _), h.2.below k⟩
theorem SsTo.set0 {w w1 : World} {g : Nat} {s : Sc} (h : SsTo w g s w1) (r : List UInt8) : SsTo w g ⟨r, s.bad⟩ (w1.setCell ⟨g, 0, none⟩ (.string ⟨r.toArray⟩)) := ⟨h.1.trans (grown_set _ _ _), h.2.set0 r⟩
theorem SsTo.set1 {w w1 : World} {g : Nat} {s : Sc} (h : SsTo w g s w1) (b : Bool) : SsTo w g ⟨s.rest, b⟩ (w1.setCell ⟨g, 1, none⟩ (.bool b)) := ⟨h.1.trans (grown_set _ _ _), h.2.set1 b⟩
theorem SsTo.eq {w w1 : World} {g : Nat} {s s' : Sc} (h : SsTo w g s w1) (e : s = s') : SsTo w g s' w1 := e ▸ h
theorem Ss.drew {w : World} {g : Nat} {s : Sc} (h : Ss w g s) : Ss w.drew g s := h.below (Below.refl _ _).drew
theorem Ss.alloc {w : World} {g : Nat} {s : Sc} (h : Ss w g s) (o : Obj) : Ss (w.alloc o) g s := h.below (below_new _ _)
theorem Ss.new (w : World) (r : List UInt8) (b : Bool) (T : TypeId) : Ss (w.alloc (.cells #[.string ⟨r.toArray⟩, .bool b] T)) w.heap.size ⟨r, b⟩ where
 lt := by simp
 c0 := by simp
 c1 := by simp
 f0 := by simp
 f1 := by simp
def Keeps (b : Nat) (w w' : World) : Prop := w.heap.size ≤ w'.heap.size ∧ ∀ k, b ≤ k → k < w.heap.size → w'.heap[k]? = w.heap[k]?
theorem Keeps.refl (b : Nat) (w : World) : Keeps b w w := ⟨Nat.le_refl _, fun _ _ _ => rfl⟩
theorem Keeps.trans {b : Nat} {w w1 w2 : World} (h : Keeps b w w1) (k : Keeps b w1 w2) : Keeps b w w2 :=
 ⟨Nat.le_trans h.1 k.1, fun i hb hi => (k.2 i hb (Nat.lt_of_lt_of_le hi h.1)).trans (h.2 i hb hi)⟩
theorem Keeps.up {b b' : Nat} {w w' : World} (h : Keeps b w w') (hb : b ≤ b') : Keeps b' w w' := ⟨h.1, fun i hi => h.2 i (Nat.le_trans hb hi)⟩
def Stays (b : Nat) (P : World → Prop) (w : World) : Prop := ∀ w', Keeps b w w' → P w'
theorem Stays.out {b : Nat} {P : World → Prop} {w : World} (h : Stays b P w) : P w := h w (Keeps.refl _ _)
theorem Stays.on {b : Nat} {P : World → Prop} {w w1 : World} (h : Stays b P w) (k : Keeps b w w1) : Stays b P w1 := fun w' h' => h w' (k.trans h')
theorem Stays.low {b b' : Nat} {P : World → Prop} {w : World} (h : Stays b P w) (hb : b' ≤ b) : Stays b' P w := fun w' h' => h w' (h'.up hb)
theorem Stays.imp {b : Nat} {P Q : World → Prop} {w : World} (h : Stays b P w) (k : ∀ w', P w' → Q w') : Stays b Q w := fun w' h' => k w' (h w' h')
theorem Stays.and {b : Nat} {P Q : World → Prop} {w : World} (h : Stays b P w) (k : Stays b Q w) : Stays b (fun w => P w ∧ Q w) w := fun w' h' => ⟨h w' h', k w' h'⟩
theorem stays_row {b base e k n : Nat} {A : Option Addr} {c : Nat} {xs : List Value} {w : World} (h : w.ownsRow base e k (.slice A n c) n xs) (hb : b ≤ base) : Stays b (fun w => Rd w k A n xs) w := by
 intro w' hw
 refine Rd.own (base := base) (e := e) (c := c) ⟨h.1, ?_⟩
 rcases h.2 with h1 | ⟨g, cap, cur, hv, hge, hg, rest⟩
 · exact .inl h1
 · have hlt : g < w.heap.size := (h.lt g (by rw [hv]; rfl)).2
   exact .inr ⟨g, cap, cur, hv, hge, (hw.2 g (by omega) hlt).trans hg, rest⟩
/-! what comes back from a source -/
open Go.RowKit
structure Vr (w : World) (b : Nat) (cs : List Value) : Prop where
 lt : b < w.heap.size
 cells : ∀ j v, cs[j]? = some v → w.cell? ⟨b, j, none⟩ = some v
 free : ∀ j, j < cs.length → w.frozen? ⟨b, j, none⟩ = false
theorem Vr.range {w : World} {b : Nat} {cs : List Value} (h : Vr w b cs) : w.rangeAt b 0 cs := fun j v hv => by rw [Nat.zero_add]; exact h.cells j v hv
theorem Vr.there {w : World} {b : Nat} {cs : List Value} (h : Vr w b cs) {n : Nat} (hn : n = cs.length) : w.there b 0 n := fun j hj => by
 subst hn
 rw [Nat.zero_add]
 refine ⟨by rw [h.cells j _ (List.getElem?_eq_getElem hj)]; rfl, h.free j hj⟩
theorem Vr.new (w : World) (cs : List Value) (T : TypeId) : Vr (w.alloc (.cells cs.toArray T)) w.heap.size cs where
 lt := by simp
 cells j v hv := by
  have := cell_new w cs T w.heap.size rfl j v hv
  rw [add_off, Nat.zero_add] at this
  exact this
 free j hj := by simp
theorem Vr.below {w w' : World} {b : Nat} {cs : List Value} (h : Vr w b cs) (hb : Below w.heap.size w w') : Vr w' b cs where
 lt := Nat.lt_of_lt_of_le h.lt hb.size
 cells j v hv := (hb.cell (p := ⟨b, j, none⟩) h.lt).trans (h.cells j v hv)
 free j hj := (hb.frozen (p := ⟨b, j, none⟩) h.lt).trans (h.free j hj)
theorem Vr.grown {w w' : World} {b g : Nat} {cs : List Value} (h : Vr w b cs) (hg : w.grownBy w' (some g)) (hne : b ≠ g) : Vr w' b cs where
 lt := Nat.lt_of_lt_of_le h.lt hg.size
 cells j v hv := (hg.cell_far ⟨b, j, none⟩ h.lt (by simpa using hne)).trans (h.cells j v hv)
 free j hj := (hg.frozen_far ⟨b, j, none⟩ h.lt (by simpa using hne)).trans (h.free j hj)
theorem Vr.set {w : World} {b : Nat} {cs : List Value} (h : Vr w b cs) (i : Nat) (v : Value) : Vr (w.setCell ⟨b, i, none⟩ v) b (cs.set i v) where
 lt := by simpa using h.lt
 cells j u hu := by
  by_cases e : i = j
  · subst e
    have hj : i < cs.length := by
     have := (List.getElem?_eq_some_iff.1 hu).1
     simpa using this
    rw [List.getElem?_set_self hj] at hu
    rw [← hu]
    exact World.cell?_setCell_same _ _ _ (h.cells i _ (List.getElem?_eq_getElem hj))
  · rw [List.getElem?_set_ne e] at hu
    exact (World.cell?_setCell_other _ _ _ _ (by simp [])).trans (h.cells j u hu)
 free j hj := (frz_set _ _ _ _).trans (h.free j (by rw [List.length_set] at hj; exact hj))
theorem grown_sets (w : World) (b : Nat) (vs : List Value) (o : Nat) : w.grownBy (w.setCells b o vs) (some b) := by
 induction vs generalizing o w with
 | nil => exact grown_below (Below.refl _ _) _
 | cons v r ih => exact (grown_set w ⟨b, o, none⟩ v).trans (ih _ _)
theorem Vr.sets {w : World} {b : Nat} {cs : List Value} (h : Vr w b cs) (cs' : List Value) (hl : cs'.length = cs.length) : Vr (w.setCells b 0 cs') b cs' where
 lt := Nat.lt_of_lt_of_le h.lt (grown_sets w b cs' 0).size
 cells j v hv := by
  have := World.rangeAt_setCells_same w b 0 cs' (h.there hl) j v hv
  rwa [Nat.zero_add] at this
 free j hj := by rw [World.frozen?_setCells]; exact h.free j (by omega)
theorem Vr.eq {w : World} {b : Nat} {cs cs' : List Value} (h : Vr w b cs) (e : cs = cs') : Vr w b cs' := e ▸ h
theorem results_mid_slot {P : Program} {fn : Func} {p q : Tmp} {ty : TypeId} (h : fn.results = #[.cell p ty, .tmp q]) (tmps : Array Value) (w : World) (b : Nat) (cs : List Value) (d : TypeDesc) (v : Value)
    (hp : tmps.getD p undef = .pointer (some ⟨b, 0, none⟩)) (hq : tmps.getD q undef = v) (hc : w.rangeAt b 0 cs) (hu : P.underlying ty = some d) (hd : d.isRow = true) (hi : (P.info? ty).map (·.size) = some cs.length) :
    (results fn tmps).run P w = .ok (.tuple #[.agg cs.toArray, v]) w := by
 have hp' : tmps[p]?.getD undef = .pointer (some ⟨b, 0, none⟩) := by simpa using hp
 have hq' : tmps[q]?.getD undef = v := by simpa using hq
 simp [results, h, hp', hq', asAddr, run_loadVar_mid w b 0 ty cs d hc hu hd hi]
def Rs (w : World) (g : Nat) (s : Sc) : Prop := ∃ c : Int, decide (c = 0) = !s.bad ∧ Vr w g [.string ⟨s.rest.toArray⟩, .int .i64 c]
theorem Rs.below {w w' : World} {g : Nat} {s : Sc} (h : Rs w g s) (hb : Below w.heap.size w w') : Rs w' g s := by
 obtain ⟨c, hc, hv⟩ := h
 exact ⟨c, hc, hv.below hb⟩
theorem Rs.grown {w w' : World} {g q : Nat} {s : Sc} (h : Rs w g s) (hb : w.grownBy w' (some q)) (hne : g ≠ q) : Rs w' g s := by
 obtain ⟨c, hc, hv⟩ := h
 exact ⟨c, hc, hv.grown hb hne⟩
theorem Rs.lt {w : World} {g : Nat} {s : Sc} (h : Rs w g s) : g < w.heap.size := by
 obtain ⟨c, hc, hv⟩ := h
 exact hv.lt
open Go.RowKit
def RetSgo (o : Option Sg) (w : World) (e : Ending) (w' : World) : Prop := Below w.heap.size w w' ∧ match o with
 | some x => e = .returned (.tuple #[.agg (sgC x).toArray, .int .i64 0])
 | none => ∃ x : Sg, e = .returned (.tuple #[.agg (sgC x).toArray, .int .i64 2]) ∧ x = sg0
theorem RetSgo.cases {o : Option Sg} {w w' : World} {e : Ending} (h : RetSgo o w e w') : Below w.heap.size w w' ∧ ((∃ x, o = some x ∧ e = .returned (.tuple #[.agg (sgC x).toArray, .int .i64 0])) ∨ (o = none ∧ e = .returned (.tuple #[.agg (sgC sg0).toArray, .int .i64 2]))) := by
 refine ⟨h.1, ?_⟩
 cases o with
 | none =>
  obtain ⟨x, he, hx⟩ := h.2
  subst hx
  exact .inr ⟨rfl, he⟩
 | some x => exact .inl ⟨x, rfl, h.2⟩
theorem SsTo.alloc {w w1 : World} {g : Nat} {s : Sc} (h : SsTo w g s w1) (x : Obj) : SsTo w g s (w1.alloc x) := h.below (below_new _ _)
theorem Ss.grown {w w' : World} {g b : Nat} {s : Sc} (h : Ss w g s) (hg : w.grownBy w' (some b)) (hne : g ≠ b) : Ss w' g s where
 lt := Nat.lt_of_lt_of_le h.lt hg.size
 c0 := (hg.cell_far ⟨g, 0, none⟩ h.lt (by simpa using hne)).trans h.c0
 c1 := (hg.cell_far ⟨g, 1, none⟩ h.lt (by simpa using hne)).trans h.c1
 f0 := (hg.frozen_far ⟨g, 0, none⟩ h.lt (by simpa using hne)).trans h.f0
 f1 := (hg.frozen_far ⟨g, 1, none⟩ h.lt (by simpa using hne)).trans h.f1
theorem grown_own {w w1 w2 : World} {g b : Nat} (h : w.grownBy w1 (some g)) (k : w1.grownBy w2 (some b)) (hb : w.heap.size ≤ b) : w.grownBy w2 (some g) :=
 ⟨k.os.trans h.os, k.tape.trans h.tape, k.output.trans h.output, Nat.le_trans h.size k.size, fun i hi hne => (k.block i (Nat.lt_of_lt_of_le hi h.size) (fun e => by simp only [Option.some.injEq] at e; omega)).trans (h.block i hi hne)⟩
theorem SsTo.own {w w1 w2 : World} {g b : Nat} {s : Sc} (h : SsTo w g s w1) (k : w1.grownBy w2 (some b)) (hb : w.heap.size ≤ b) (hne : g ≠ b) : SsTo w g s w2 :=
 ⟨grown_own h.1 k hb, h.2.grown k hne⟩
theorem grown_vs {w : World} {b : Nat} (vs : List Value) : w.grownBy (w.setCells b 0 vs) (some b) := grown_sets w b vs 0
open Go.RowKit
def Foot (F : Nat → Prop) (P : World → Prop) (w : World) : Prop := ∀ w', w.heap.size ≤ w'.heap.size → (∀ k, F k → w'.heap[k]? = w.heap[k]?) → P w'
theorem Foot.out {F : Nat → Prop} {P : World → Prop} {w : World} (h : Foot F P w) : P w := h w (Nat.le_refl _) (fun _ _ => rfl)
theorem Foot.on {F : Nat → Prop} {P : World → Prop} {w w1 : World} (h : Foot F P w) (hs : w.heap.size ≤ w1.heap.size) (hk : ∀ k, F k → w1.heap[k]? = w.heap[k]?) : Foot F P w1 :=
 fun w' h1 h2 => h w' (Nat.le_trans hs h1) (fun k hF => (h2 k hF).trans (hk k hF))
theorem Foot.mono {F F' : Nat → Prop} {P : World → Prop} {w : World} (h : Foot F P w) (hF : ∀ k, F k → F' k) : Foot F' P w := fun w' h1 h2 => h w' h1 (fun k hk => h2 k (hF k hk))
theorem Foot.imp2 {F : Nat → Prop} {P Q R : World → Prop} {w : World} (h : Foot F P w) (k : Foot F Q w) (hi : ∀ w', P w' → Q w' → R w') : Foot F R w := fun w' h1 h2 => hi w' (h w' h1 h2) (k w' h1 h2)
theorem foot_stays {b : Nat} {P : World → Prop} {w : World} (h : Stays b P w) : Foot (fun k => b ≤ k ∧ k < w.heap.size) P w := fun w' h1 h2 => h w' ⟨h1, fun k hb hk => h2 k ⟨hb, hk⟩⟩
theorem stays_foot {b : Nat} {F : Nat → Prop} {P : World → Prop} {w : World} (h : Foot F P w) (hF : ∀ k, F k → b ≤ k ∧ k < w.heap.size) : Stays b P w := fun w' hw => h w' hw.1 (fun k hk => hw.2 k (hF k hk).1 (hF k hk).2)
def RetXs {α : Type} (k : Nat) (C : α → List Value) (er : α → α) (ok : α → World → Prop) (g : Nat) (r : List α × Sc) (w : World) (e : Ending) (w' : World) : Prop :=
 ∃ x : Sl α, e = .returned (.slice x.a x.l.length x.c) ∧ x.l.map er = r.1 ∧ Stays w.heap.size (fun w => x.rd k C w ∧ ∀ y ∈ x.l, ok y w) w' ∧ SsTo w g r.2 w'
theorem Ss.new' (w : World) (r : List UInt8) (b : Bool) (T : TypeId) {g : Nat} (hg : g = w.heap.size) : Ss (w.alloc (.cells #[.string ⟨r.toArray⟩, .bool b] T)) g ⟨r, b⟩ := hg ▸ Ss.new w r b T
theorem Vr.new' (w : World) (cs : List Value) (T : TypeId) {b : Nat} (hb : b = w.heap.size) : Vr (w.alloc (.cells cs.toArray T)) b cs := hb ▸ Vr.new w cs T
structure PtSt {α : Type} (T k : Nat) (C : α → List Value) (er : α → α) (ok : α → World → Prop) (tk : Sc → α × Sc) (w : World) (B g : Nat) (A : Option Addr) (l : List (List UInt8)) (s1 : Sc) (j : Nat) (o : Value) (xs : List α) (sj : Sc) (F : Nat → Prop) (wr : World) : Prop where
 len : xs.length = j
 own : wr.ownsRow B T k o j (xs.flatMap C)
 src : SsTo w g sj wr
 size : B ≤ wr.heap.size
 foot : Foot F (fun W => Rd W 1 A l.length (strC l) ∧ ∀ y ∈ xs, ok y W) wr
 fin : ∀ i, F i → w.heap.size ≤ i ∧ i < wr.heap.size ∧ o.ownBlock ≠ some i
 all : tkAll tk l s1 = (xs.map er ++ (tkAll tk (l.drop j) sj).1, (tkAll tk (l.drop j) sj).2)
theorem PtSt.start {α : Type} {T k : Nat} {C : α → List Value} {er : α → α} {ok : α → World → Prop} {tk : Sc → α × Sc} {w w1 : World} {g : Nat} {A : Option Addr} {l : List (List UInt8)} {s1 : Sc}
    (hr : Stays w.heap.size (fun w => Rd w 1 A l.length (strC l)) w1) (h : SsTo w g s1 w1) : PtSt T k C er ok tk w w1.heap.size g A l s1 0 (.slice none 0 0) [] s1 (fun i => w.heap.size ≤ i ∧ i < w1.heap.size) w1 where
 len := rfl
 own := World.ownsRow_nil _ _ _ _
 src := h
 size := Nat.le_refl _
 foot := (foot_stays hr).imp2 (foot_stays hr) (fun w' h _ => ⟨h, by simp⟩)
 fin i hi := ⟨hi.1, hi.2, by simp [Value.ownBlock]⟩
 all := by simp
theorem PtSt.row {α : Type} {T k : Nat} {C : α → List Value} {er : α → α} {ok : α → World → Prop} {tk : Sc → α × Sc} {w wr w2 : World} {B g : Nat} {A : Option Addr} {l : List (List UInt8)} {s1 s2 : Sc} {j : Nat} {o : Value} {xs : List α} {sj : Sc} {F : Nat → Prop}
    (h : PtSt T k C er ok tk w B g A l s1 j o xs sj F wr) (hg : g < B) (hs : SsTo wr g s2 w2) : w2.ownsRow B T k o j (xs.flatMap C) :=
 h.own.kept hs.1 (by
  cases ho : o.ownBlock with
  | none => exact .inl rfl
  | some b =>
   have := (h.own.lt b ho).1
   exact .inr (fun e => by simp only [Option.some.injEq] at e; omega))
theorem PtSt.done {α : Type} {T k : Nat} {C : α → List Value} {er : α → α} {ok : α → World → Prop} {tk : Sc → α × Sc} {w wr : World} {B g : Nat} {A : Option Addr} {l : List (List UInt8)} {s1 : Sc} {o : Value} {xs : List α} {sj : Sc} {F : Nat → Prop}
    (h : PtSt T k C er ok tk w B g A l s1 l.length o xs sj F wr) (hB : w.heap.size ≤ B) : ∃ a c, o = .slice a l.length c ∧ RetXs k C er ok g (tkAll tk l s1) w (.returned (.slice a l.length c)) wr := by
 obtain ⟨a, c, rfl⟩ := ownsRow_form h.own
 refine ⟨a, c, rfl, ⟨a, c, xs⟩, by rw [h.len], ?_, ?_, ?_⟩
 · rw [h.all, List.drop_length]; simp [tkAll]
 · have h1 : Stays w.heap.size (fun w => Rd w k a l.length (xs.flatMap C)) wr := stays_row h.own hB
   have h2 : Stays w.heap.size (fun W => Rd W 1 A l.length (strC l) ∧ ∀ y ∈ xs, ok y W) wr := stays_foot h.foot (fun i hi => ⟨(h.fin i hi).1, (h.fin i hi).2.1⟩)
   exact (h1.and h2).imp (fun w' hh => ⟨by show Rd w' k a xs.length (xs.flatMap C); rw [h.len]; exact hh.1, hh.2.2⟩)
 · rw [h.all, List.drop_length]; exact h.src
theorem wpAnyH_strong {P : Program} {ops : Array Oper} {Q : Exit → Act → World → Prop} {md : Region.Mode} {S S' : World → Prop} (h : ∀ w, S' w → S w) :
    ∀ (fuel : Nat) (listed : Array Bool) (a : Act) (w : World), wpAnyH P md ops Q S' fuel listed a w → wpAnyH P md ops Q S fuel listed a w
 | 0, _, _, _, k => k
 | fuel + 1, _, _, _, k => ⟨k.1, fun i hi => wpOp_mono (fun a' w' h' => ⟨h w' h'.1, wpAnyH_strong h fuel _ a' w' h'.2⟩) (k.2 i hi)⟩
def Held (a b4 : Nat) (P : World → Prop) (W : World) : Prop := ∃ F : Nat → Prop, Foot F P W ∧ ∀ k, F k → a ≤ k ∧ k < W.heap.size ∧ k ≠ b4
theorem Held.row {a b4 q : Nat} {P : World → Prop} {W W' : World} (h : Held a b4 P W) (hg : W.grownBy W' (some q)) (hq : q < a ∨ q = b4) : Held a b4 P W' := by
 obtain ⟨F, h1, h2⟩ := h
 have hz := hg.size
 refine ⟨F, h1.on hz (fun k hk => hg.block k (h2 k hk).2.1 (fun e => ?_)), fun k hk => ⟨(h2 k hk).1, Nat.lt_of_lt_of_le (h2 k hk).2.1 hz, (h2 k hk).2.2⟩⟩
 simp only [Option.some.injEq] at e
 have h3 := h2 k hk
 omega
theorem Held.below {a b4 : Nat} {P : World → Prop} {W W' : World} (h : Held a b4 P W) (hb : Below W.heap.size W W') : Held a b4 P W' := by
 obtain ⟨F, h1, h2⟩ := h
 exact ⟨F, h1.on hb.size (fun k hk => hb.block k (h2 k hk).2.1), fun k hk => ⟨(h2 k hk).1, Nat.lt_of_lt_of_le (h2 k hk).2.1 hb.size, (h2 k hk).2.2⟩⟩
theorem Vr.far {W W' : World} {b q : Nat} {cs : List Value} (h : Vr W b cs) (hg : W.grownBy W' (some q)) (hne : b ≠ q) : Vr W' b cs := h.grown hg hne
end Go.Proofs.YtepbbaifpckcpaaGreatDoor
