/- The builder of the call's own, tables of types, small steps: at this program. -/
import Derived.Test.YtoehakekjlebdaaDoorRows
import Derived.Test.YtoehakekjlebdaaDoorShelf
import Derived.Test.YtoehakekjlebdaaDoorWireP
import Derived.WalkKit
import Derived.WalkSpells
import Derived.WalkLawsBesides
import Derived.LoopTactic
import Derived.Lib.Hide
import Derived.Outline
import Derived.Deep.QuietTactic
import Derived.BigQuiet
import Derived.IntWalk
import Derived.StillTailTactics
namespace Go.Proofs.YtoehakekjlebdaaDoor
open Go.RowKit

theorem info_parts {t : TypeId} {x : Option Value × Nat × Nat} (h : (Tryd.prog.info? t).map (fun i => (i.zero, i.size, i.bytes)) = some x) : ∃ i, Tryd.prog.info? t = some i ∧ i.zero = x.1 ∧ i.size = x.2.1 ∧ i.bytes = x.2.2 := by
  cases hi : Tryd.prog.info? t with
  | none => rw [hi] at h; simp at h
  | some i =>
    rw [hi] at h
    simp only [Option.map_some, Option.some.injEq] at h
    subst h
    exact ⟨i, rfl, rfl, rfl, rfl⟩
theorem shaped_below {W W' : World} (h : W.ShapedOpen Tryd.prog) (hb : Below W.heap.size W W') : W'.ShapedOpen Tryd.prog :=
  h.keptBut (hb.frame (fun _ => False)) (fun _ h => h.elim)
theorem infoB : (Tryd.prog.info? 5).map (fun i => (i.zero, i.size, i.bytes)) = some (some (.int .u8 0), 1, 1) := by kernel_rfl
theorem infoS : (Tryd.prog.info? 9).map (fun i => (i.zero, i.size, i.bytes)) = some (some (.string ⟨#[]⟩), 1, 16) := by kernel_rfl
theorem infoI : (Tryd.prog.info? 3).map (fun i => (i.zero, i.size, i.bytes)) = some (some (.int .i64 0), 1, 8) := by kernel_rfl

/-- a builder of the call's own: it holds the bytes l; below it nothing has turned since w0 -/
def BSt (w0 : World) (l : List UInt8) (w : World) : Prop := Lib.IsBuilder 87 5 w0.heap.size w0.heap.size (Lib.byteCells l) w ∧ Below w0.heap.size w0 w ∧ w0.heap.size ≤ w.heap.size
theorem bst_new (w : World) : BSt w [] (w.alloc (.cells #[.pointer none, .slice none 0 0] 87)) :=
  ⟨Lib.fresh_isBuilder 87 5 w, (Below.refl _ _).alloc (Nat.le_refl _) _, by simp⟩
theorem bst_drewN {w0 w : World} {l : List UInt8} (h : BSt w0 l w) (n : Nat) : BSt w0 l (w.drewN n) := ⟨h.1, bdN h.2.1 n, h.2.2⟩
theorem bst_str {w0 w : World} {l : List UInt8} (h : BSt w0 l w) (s : ByteArray) (hl : l.length + s.size ≤ 140737488355328) :
    Calls Tryd.prog 64 #[.pointer (some ⟨w0.heap.size, 0, none⟩), .string s] w fun e w' => e = .returned (.tuple #[.int .i64 s.size, .nilIface]) ∧ BSt w0 (l ++ s.data.toList) w' :=
  (Tryd.Builder_WriteString _ _ _ s w h.1 (by simpa [Lib.byteCells] using hl) h.2.2).mono fun _ _ ⟨he, hI, hb⟩ =>
    ⟨he, by have : Lib.byteCells l ++ Lib.strCells s = Lib.byteCells (l ++ s.data.toList) := by simp [Lib.byteCells, Lib.strCells]
            rw [this] at hI; exact .inr hI, h.2.1.trans hb, Nat.le_trans h.2.2 hb.size⟩
theorem bst_byte {w0 w : World} {l : List UInt8} (h : BSt w0 l w) (c : Int) (h0 : 0 ≤ c) (h1 : c < 256) (hl : l.length + 1 ≤ 140737488355328) :
    Calls Tryd.prog 81 #[.pointer (some ⟨w0.heap.size, 0, none⟩), .int .u8 c] w fun e w' => e = .returned .nilIface ∧ BSt w0 (l ++ [c.toNat.toUInt8]) w' :=
  (Tryd.Builder_WriteByte _ _ _ c w h.1 (by simpa [Lib.byteCells] using hl) h.2.2).mono fun _ _ ⟨he, hI, hb⟩ =>
    ⟨he, by rw [byteCells_snoc l c h0 h1] at hI; exact .inr hI, h.2.1.trans hb, Nat.le_trans h.2.2 hb.size⟩
theorem bst_get {w0 w : World} {l : List UInt8} (h : BSt w0 l w) :
    Calls Tryd.prog 65 #[.pointer (some ⟨w0.heap.size, 0, none⟩)] w fun e w' => e = .returned (.string ⟨l.toArray⟩) ∧ Below w0.heap.size w0 w' :=
  (Tryd.Builder_String_any _ _ l w h.1 h.2.2).mono fun _ _ ⟨he, hb⟩ => ⟨he, h.2.1.trans hb⟩
theorem bst_eq {w0 w : World} {l l' : List UInt8} (h : BSt w0 l w) (e : l = l') : BSt w0 l' w := e ▸ h
end Go.Proofs.YtoehakekjlebdaaDoor
