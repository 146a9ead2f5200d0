/- Tables of types, small steps: at this program. -/
import Derived.Test.YtlklmpcfhnbhgaaDoorRows
import Derived.Test.YtlklmpcfhnbhgaaDoorCpP
import Derived.WalkKit
import Derived.WalkSpells
import Derived.WalkLawsBesides
import Derived.LoopTactic
import Derived.Lib.Hide
import Derived.Outline
import Derived.Deep.QuietTactic
import Derived.BigQuiet
import Derived.IntWalk
import Derived.StillTailTactics
import Derived.Deep.MidRow
import Derived.Deep.RegionHeld3
import Derived.Deep.RegionWith
import Derived.Laws.Rows
import Derived.Maps.AppendAt
import Derived.Deep.Cut
import Derived.Deep.CutRange
namespace Go.Proofs.YtlklmpcfhnbhgaaDoor
open Go.RowKit

theorem info_parts {t : TypeId} {x : Option Value × Nat × Nat} (h : (Tryd.prog.info? t).map (fun i => (i.zero, i.size, i.bytes)) = some x) : ∃ i, Tryd.prog.info? t = some i ∧ i.zero = x.1 ∧ i.size = x.2.1 ∧ i.bytes = x.2.2 := by
  cases hi : Tryd.prog.info? t with
  | none => rw [hi] at h; simp at h
  | some i =>
    rw [hi] at h
    simp only [Option.map_some, Option.some.injEq] at h
    subst h
    exact ⟨i, rfl, rfl, rfl, rfl⟩
theorem shaped_below {W W' : World} (h : W.ShapedOpen Tryd.prog) (hb : Below W.heap.size W W') : W'.ShapedOpen Tryd.prog :=
  h.keptBut (hb.frame (fun _ => False)) (fun _ h => h.elim)
theorem infoI : (Tryd.prog.info? 3).map (fun i => (i.zero, i.size, i.bytes)) = some (some (.int .i64 0), 1, 8) := by kernel_rfl
theorem infoN : (Tryd.prog.info? 41).map (fun i => (i.zero, i.size, i.bytes)) = some (some (.agg #[.int .i64 0, .int .i64 0, .int .i64 0, .slice none 0 0, .slice none 0 0]), 5, 72) := by kernel_rfl
theorem infoX : (Tryd.prog.info? 25).map (fun i => (i.zero, i.size, i.bytes)) = some (some (.agg #[.slice none 0 0, .int .i64 0]), 2, 32) := by kernel_rfl

/-! what stands while other memory turns -/
def Keeps (b : Nat) (w w' : World) : Prop := w.heap.size ≤ w'.heap.size ∧ ∀ k, b ≤ k → k < w.heap.size → w'.heap[k]? = w.heap[k]?
def Foot (F : Nat → Prop) (P : World → Prop) (w : World) : Prop := ∀ w', w.heap.size ≤ w'.heap.size → (∀ k, F k → w'.heap[k]? = w.heap[k]?) → P w'
theorem Foot.out {F : Nat → Prop} {P : World → Prop} {w : World} (h : Foot F P w) : P w := h w (Nat.le_refl _) (fun _ _ => rfl)
theorem Foot.on {F : Nat → Prop} {P : World → Prop} {w w1 : World} (h : Foot F P w) (hs : w.heap.size ≤ w1.heap.size) (hk : ∀ k, F k → w1.heap[k]? = w.heap[k]?) : Foot F P w1 :=
  fun w' h1 h2 => h w' (Nat.le_trans hs h1) (fun k hF => (h2 k hF).trans (hk k hF))
theorem Foot.mono {F F' : Nat → Prop} {P : World → Prop} {w : World} (h : Foot F P w) (hF : ∀ k, F k → F' k) : Foot F' P w := fun w' h1 h2 => h w' h1 (fun k hk => h2 k (hF k hk))
theorem Foot.imp2 {F : Nat → Prop} {P Q R : World → Prop} {w : World} (h : Foot F P w) (k : Foot F Q w) (hi : ∀ w', P w' → Q w' → R w') : Foot F R w := fun w' h1 h2 => hi w' (h w' h1 h2) (k w' h1 h2)
theorem Foot.imp {F : Nat → Prop} {P R : World → Prop} {w : World} (h : Foot F P w) (hi : ∀ w', P w' → R w') : Foot F R w := fun w' h1 h2 => hi w' (h w' h1 h2)
/-- a property that lives in blocks that are made behind the world w -/
def New (b : Nat) (P : World → Prop) (w : World) : Prop := Foot (fun k => b ≤ k ∧ k < w.heap.size) P w
theorem New.low {b b' : Nat} {P : World → Prop} {w : World} (h : New b P w) (hb : b' ≤ b) : New b' P w := Foot.mono h (fun _ hk => ⟨by omega, hk.2⟩)
theorem New.on {b : Nat} {P : World → Prop} {w w' : World} (h : New b P w) (hb : Below w.heap.size w w') : New b P w' :=
  Foot.mono (Foot.on h hb.size (fun k hk => hb.block k hk.2)) (fun _ hk => ⟨hk.1, Nat.lt_of_lt_of_le hk.2 hb.size⟩)
theorem New.imp {b : Nat} {P Q : World → Prop} {w : World} (h : New b P w) (hi : ∀ w', P w' → Q w') : New b Q w := Foot.imp h hi
theorem new_row {b base e k n : Nat} {A : Option Addr} {c : Nat} {xs : List Value} {w : World} (h : w.ownsRow base e k (.slice A n c) n xs) (hb : b ≤ base) : New b (fun w => Rd w k A n xs) w := by
  intro w' h1 h2
  refine Rd.own (base := base) (e := e) (c := c) ⟨h.1, ?_⟩
  rcases h.2 with h3 | ⟨g, cap, cur, hv, hge, hg, rest⟩
  · exact .inl h3
  · have hlt : g < w.heap.size := (h.lt g (by rw [hv]; rfl)).2
    exact .inr ⟨g, cap, cur, hv, hge, (h2 g ⟨by omega, hlt⟩).trans hg, rest⟩
theorem new_nil {b k : Nat} {A : Option Addr} {w : World} : New b (fun w => Rd w k A 0 []) w := fun w' _ _ => Rd.nil w' k A
theorem new_cells {b k n : Nat} {cs : List Value} {T : TypeId} {w : World} (h : cs.length = n * k) (hb : b ≤ w.heap.size) : New b (fun w' => Rd w' k (some ⟨w.heap.size, 0, none⟩) n cs) (w.alloc (.cells cs.toArray T)) := by
  intro w' h1 h2
  have hr := rd_new w k n cs T h
  refine ⟨hr.len, fun hj => ⟨w.heap.size, 0, rfl, Nat.lt_of_lt_of_le (by simp) h1, fun j u hu => ?_⟩⟩
  have h3 : (w.alloc (.cells cs.toArray T)).cell? ⟨w.heap.size, 0 + j, none⟩ = some u := by rw [← add_off]; exact cell_new w cs T _ rfl j u hu
  rw [← h3]
  simp only [World.cell?]
  rw [h2 w.heap.size ⟨hb, by simp⟩]
theorem grown_below {w w' : World} (h : Below w.heap.size w w') (row : Option Nat) : w.grownBy w' row :=
  ⟨h.os, h.tape, h.output, h.size, fun k hk _ => h.block k hk⟩
theorem grown_set (w : World) (a : Addr) (u : Value) : w.grownBy (w.setCell a u) (some a.block) :=
  ⟨rfl, rfl, rfl, by simp, fun k _ hk => heap_setCell_other w a k u (fun e => hk (by rw [e]))⟩
theorem frz_set (w : World) (p q : Addr) (v : Value) : (w.setCell p v).frozen? q = w.frozen? q := by simp

/-- a variable of many cells -/
structure Vr (w : World) (b : Nat) (cs : List Value) : Prop where
  lt : b < w.heap.size
  cells : ∀ j v, cs[j]? = some v → w.cell? ⟨b, j, none⟩ = some v
  free : ∀ j, j < cs.length → w.frozen? ⟨b, j, none⟩ = false
theorem Vr.new (w : World) (cs : List Value) (T : TypeId) : Vr (w.alloc (.cells cs.toArray T)) w.heap.size cs where
  lt := by simp
  cells j v hv := by
    have := cell_new w cs T w.heap.size rfl j v hv
    rw [add_off, Nat.zero_add] at this
    exact this
  free j hj := by simp
theorem Vr.below {w w' : World} {b : Nat} {cs : List Value} (h : Vr w b cs) (hb : Below w.heap.size w w') : Vr w' b cs where
  lt := Nat.lt_of_lt_of_le h.lt hb.size
  cells j v hv := (hb.cell (p := ⟨b, j, none⟩) h.lt).trans (h.cells j v hv)
  free j hj := (hb.frozen (p := ⟨b, j, none⟩) h.lt).trans (h.free j hj)
theorem Vr.grown {w w' : World} {b : Nat} {g : Option Nat} {cs : List Value} (h : Vr w b cs) (hg : w.grownBy w' g) (hne : g ≠ some b) : Vr w' b cs where
  lt := Nat.lt_of_lt_of_le h.lt hg.size
  cells j v hv := (hg.cell_far ⟨b, j, none⟩ h.lt (by simpa using fun e => hne e.symm)).trans (h.cells j v hv)
  free j hj := (hg.frozen_far ⟨b, j, none⟩ h.lt (by simpa using fun e => hne e.symm)).trans (h.free j hj)
theorem Vr.set {w : World} {b : Nat} {cs : List Value} (h : Vr w b cs) (i : Nat) (v : Value) : Vr (w.setCell ⟨b, i, none⟩ v) b (cs.set i v) where
  lt := by simpa using h.lt
  cells j u hu := by
    by_cases e : i = j
    · subst e
      have hj : i < cs.length := by
        have := (List.getElem?_eq_some_iff.1 hu).1
        simpa using this
      rw [List.getElem?_set_self hj] at hu
      rw [← hu]
      exact World.cell?_setCell_same _ _ _ (h.cells i _ (List.getElem?_eq_getElem hj))
    · rw [List.getElem?_set_ne e] at hu
      exact (World.cell?_setCell_other _ _ _ _ (by simp [])).trans (h.cells j u hu)
  free j hj := (frz_set _ _ _ _).trans (h.free j (by rw [List.length_set] at hj; exact hj))
theorem Vr.eq {w : World} {b : Nat} {cs cs' : List Value} (h : Vr w b cs) (e : cs = cs') : Vr w b cs' := e ▸ h
theorem Vr.same {w w' : World} {b : Nat} {cs : List Value} (h : Vr w b cs) (hs : w.heap.size ≤ w'.heap.size) (hk : w'.heap[b]? = w.heap[b]?) : Vr w' b cs where
  lt := Nat.lt_of_lt_of_le h.lt hs
  cells j v hv := (World.cell?_of_block (a := ⟨b, j, none⟩) hk).trans (h.cells j v hv)
  free j hj := (World.frozen?_of_block (a := ⟨b, j, none⟩) hk).trans (h.free j hj)
end Go.Proofs.YtlklmpcfhnbhgaaDoor
