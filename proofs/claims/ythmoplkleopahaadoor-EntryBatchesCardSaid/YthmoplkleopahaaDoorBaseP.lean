/- Small laws on bytes, lists and strings: no program in sight. -/
import Derived.Lib.Strings
import Derived.Lib.UnsafeStr
import Derived.Deep.Draws
import Derived.OwnWalk
import Derived.Lib.Hide
import Derived.Below
namespace Go.Proofs.YthmoplkleopahaaDoor
open Go.RowKit

theorem ret_bool {a b : Bool} (h : a = b) : Ending.returned (.bool a) = .returned (.bool b) := by rw [h]
theorem ret_int {k : IntKind} {a b : Int} (h : a = b) : Ending.returned (.int k a) = .returned (.int k b) := by rw [h]
theorem ret_str {a b : List UInt8} (h : a = b) : Ending.returned (.string ⟨a.toArray⟩) = .returned (.string ⟨b.toArray⟩) := by rw [h]
theorem flip_same {P : Program} {f : FuncId} {args : Array Value} {w : World} {x : Ending} (h : Calls P f args w fun e w' => e = x ∧ w' = w) : Calls P f args w fun e w' => e = x ∧ w = w' :=
  h.mono fun _ _ ⟨a, b⟩ => ⟨a, b.symm⟩
theorem len_data (t : ByteArray) : t.data.toList.length = t.size := by simp
theorem str_cat (a b : List UInt8) : ByteArray.mk a.toArray ++ ByteArray.mk b.toArray = ByteArray.mk (a ++ b).toArray := by
  apply ByteArray.ext
  simp
theorem str_snoc (l : List UInt8) (b : ByteArray) : ByteArray.mk l.toArray ++ b = ByteArray.mk (l ++ b.data.toList).toArray := by
  apply ByteArray.ext
  simp
theorem str_mk (b : ByteArray) : ByteArray.mk b.data.toList.toArray = b := by
  apply ByteArray.ext
  simp
theorem size_mk (l : List UInt8) : (ByteArray.mk l.toArray).size = l.length := by simp [ByteArray.size]
theorem size_cat (a b : List UInt8) : (ByteArray.mk a.toArray ++ ByteArray.mk b.toArray).size = a.length + b.length := by
  rw [str_cat, size_mk]; simp
theorem byte_lt (c : UInt8) : c.toNat < 256 := c.toNat_lt
theorem drop_at (s : ByteArray) (i : Nat) (h : i < s.size) : s.data.toList.drop i = s[i] :: s.data.toList.drop (i + 1) := by
  have h' : i < s.data.toList.length := by simpa using h
  exact List.drop_eq_getElem_cons h'
theorem ext_mid (s : ByteArray) (a b : Nat) : s.extract a b = ⟨((s.data.toList.drop a).take (b - a)).toArray⟩ := by
  apply ByteArray.ext
  apply Array.toList_inj.1
  rw [Lib.extract_data]
theorem byteCells_snoc (l : List UInt8) (c : Int) (h0 : 0 ≤ c) (h1 : c < 256) : Lib.byteCells l ++ [.int .u8 c] = Lib.byteCells (l ++ [c.toNat.toUInt8]) := by
  obtain ⟨n, rfl⟩ := Int.eq_ofNat_of_zero_le h0
  have : n % 256 = n := Nat.mod_eq_of_lt (by omega)
  simp [Lib.byteCells, this]

/-- the slice with address A and n elements of k cells each reads as the cells xs -/
structure Rd (w : World) (k : Nat) (A : Option Addr) (n : Nat) (xs : List Value) : Prop where
  len : xs.length = n * k
  cells : 0 < xs.length → ∃ b o, A = some ⟨b, o, none⟩ ∧ b < w.heap.size ∧ ∀ j u, xs[j]? = some u → w.cell? ⟨b, o + j, none⟩ = some u
theorem Rd.below {w w' : World} {k n : Nat} {A : Option Addr} {xs : List Value} (h : Rd w k A n xs) (hb : Below w.heap.size w w') : Rd w' k A n xs :=
  ⟨h.len, fun hj => by
    obtain ⟨b, o, e, hl, hc⟩ := h.cells hj
    exact ⟨b, o, e, Nat.lt_of_lt_of_le hl hb.size, fun j u hu => (hb.cell (p := ⟨b, o + j, none⟩) hl).trans (hc j u hu)⟩⟩
theorem add_off (g j : Nat) : (⟨g, 0, none⟩ : Addr).add j = ⟨g, 0 + j, none⟩ := by unfold Addr.add; split <;> simp_all
theorem add_plain' (b o j : Nat) : (⟨b, o, none⟩ : Addr).add j = ⟨b, o + j, none⟩ := by unfold Addr.add; split <;> simp_all
theorem Rd.own {w : World} {base e k n : Nat} {A : Option Addr} {c : Nat} {xs : List Value} (h : w.ownsRow base e k (.slice A n c) n xs) : Rd w k A n xs := by
  refine ⟨h.1, fun hj => ?_⟩
  rcases h.2 with ⟨h1, h2⟩ | ⟨g, cap, cur, hv, _, hg, _⟩
  · have := h.1; subst h2; simp at this; subst this; simp at hj
  · injection hv with h1 h2 h3
    subst h1
    have hlt := (h.lt g rfl).2
    exact ⟨g, 0, rfl, hlt, fun j u hu => by rw [← add_off]; exact h.cells rfl j u hu⟩
theorem Rd.nil (w : World) (k : Nat) (A : Option Addr) : Rd w k A 0 [] := ⟨by simp, fun hj => by simp at hj⟩
theorem ownsRow_form {w : World} {base e k n : Nat} {v : Value} {xs : List Value} (h : w.ownsRow base e k v n xs) : ∃ A c, v = .slice A n c := by
  rcases h.2 with ⟨h1, h2⟩ | ⟨g, cap, cur, hv, _⟩
  · exact ⟨none, 0, by rw [h1, h2]⟩
  · exact ⟨_, _, hv⟩
theorem ownsRow_below {w w' : World} {base e k n : Nat} {v : Value} {xs : List Value} (h : w.ownsRow base e k v n xs) (hb : Below w.heap.size w w') : w'.ownsRow base e k v n xs := by
  refine ⟨h.1, ?_⟩
  rcases h.2 with h1 | ⟨g, cap, cur, hv, hge, hg, rest⟩
  · exact .inl h1
  · have hlt : g < w.heap.size := (h.lt g (by rw [hv]; rfl)).2
    exact .inr ⟨g, cap, cur, hv, hge, (hb.block g hlt).trans hg, rest⟩
theorem ownsRow_base {w : World} {base base' e k n : Nat} {v : Value} {xs : List Value} (h : w.ownsRow base e k v n xs) (hb : base' ≤ base) : w.ownsRow base' e k v n xs := by
  refine ⟨h.1, ?_⟩
  rcases h.2 with h1 | ⟨g, cap, cur, hv, hge, rest⟩
  · exact .inl h1
  · exact .inr ⟨g, cap, cur, hv, by omega, rest⟩
theorem below_grown {B : Nat} {a w w' : World} {row : Option Nat} (h : Below B a w) (hB : B ≤ w.heap.size) (hg : w.grownBy w' row) (hr : ∀ g, row = some g → B ≤ g) : Below B a w' :=
  h.trans ⟨hg.os, hg.tape, hg.output, hg.size, fun k hk => hg.block k (by omega) (fun e => by have := hr k e.symm; omega)⟩
theorem bdN {B : Nat} {a w : World} (h : Below B a w) (n : Nat) : Below B a (w.drewN n) := h.trans ⟨rfl, rfl, rfl, Nat.le_refl _, fun _ _ => rfl⟩
theorem below_new (w : World) (o : Obj) : Below w.heap.size w (w.alloc o) := (Below.refl _ _).alloc (Nat.le_refl _) _
/-- one step more, at the size of the first world -/
theorem bon {w w1 w2 : World} (h : Below w.heap.size w w1) (k : Below w1.heap.size w1 w2) : Below w.heap.size w w2 := h.trans (k.mono h.size)
theorem cell_new (W : World) (cs : List Value) (T : TypeId) (b : Nat) (hb : b = W.heap.size) : ∀ j u, cs[j]? = some u → (W.alloc (.cells cs.toArray T)).cell? ((⟨b, 0, none⟩ : Addr).add j) = some u := by
  intro j u h
  subst hb
  rw [show ((⟨W.heap.size, 0, none⟩ : Addr).add j) = ⟨W.heap.size, j, none⟩ from by unfold Addr.add; split <;> simp_all]
  have h1 : (W.alloc (.cells cs.toArray T)).heap[W.heap.size]? = some (.cells cs.toArray T) := by
    show (W.heap.push _)[W.heap.size]? = _
    simp
  simp only [World.cell?]
  rw [h1]
  simpa using h
/-- a new row -/
theorem rd_new (w : World) (k n : Nat) (cs : List Value) (T : TypeId) (h : cs.length = n * k) : Rd (w.alloc (.cells cs.toArray T)) k (some ⟨w.heap.size, 0, none⟩) n cs :=
  ⟨h, fun _ => ⟨w.heap.size, 0, rfl, by simp, fun j u hu => by rw [← add_off]; exact cell_new w cs T _ rfl j u hu⟩⟩
/-- the cells of strings -/
def strC (l : List (List UInt8)) : List Value := l.map fun x => .string ⟨x.toArray⟩
theorem strC_snoc (l : List (List UInt8)) (x : List UInt8) : strC (l ++ [x]) = strC l ++ [.string ⟨x.toArray⟩] := by simp [strC]
theorem strC_len (l : List (List UInt8)) : (strC l).length = l.length := by simp [strC]
/-- the cells of ints -/
def intC (l : List Int) : List Value := l.map fun x => .int .i64 x
theorem intC_len (l : List Int) : (intC l).length = l.length := by simp [intC]
/-- the cells of element k, in a row of elements of m cells each -/
theorem flat_get {α : Type} (C : α → List Value) (m : Nat) (hC : ∀ x, (C x).length = m) (l : List α) (k : Nat) (hk : k < l.length) (j : Nat) (hj : j < m) : (l.flatMap C)[k * m + j]? = (C l[k])[j]? := by
  induction l generalizing k with
  | nil => simp at hk
  | cons x r ih =>
    cases k with
    | zero => simp only [List.flatMap_cons, Nat.zero_mul, Nat.zero_add, List.getElem_cons_zero]; rw [List.getElem?_append_left (by rw [hC]; exact hj)]
    | succ k =>
      have := ih k (by simpa using hk)
      simp only [List.flatMap_cons, List.getElem_cons_succ]
      rw [List.getElem?_append_right (by rw [hC, Nat.succ_mul]; omega), hC, show (k + 1) * m + j - m = k * m + j from by rw [Nat.succ_mul]; omega, this]
theorem flat_len {α : Type} (C : α → List Value) (m : Nat) (hC : ∀ x, (C x).length = m) (l : List α) : (l.flatMap C).length = l.length * m := by
  induction l with
  | nil => simp
  | cons x r ih => simp only [List.flatMap_cons, List.length_append, List.length_cons] at ih ⊢; rw [ih, hC, Nat.succ_mul]; omega
/-- a cell of element k of a row, in a later world -/
theorem Rd.at {α : Type} {w : World} {m : Nat} {A : Option Addr} {l : List α} {C : α → List Value} (h : Rd w m A l.length (l.flatMap C)) (hC : ∀ x, (C x).length = m) (hm : 0 < m) {k : Nat} (hk : k < l.length) :
    ∃ b o, A = some ⟨b, o, none⟩ ∧ b < w.heap.size ∧ ∀ w', Below w.heap.size w w' → ∀ j v, (C l[k])[j]? = some v → w'.cell? ⟨b, o + k * m + j, none⟩ = some v := by
  have hp : 0 < l.length * m := Nat.mul_pos (by omega) hm
  obtain ⟨b, o, rfl, hb, hc⟩ := h.cells (by rw [flat_len C m hC]; exact hp)
  refine ⟨b, o, rfl, hb, fun w' hw j v hv => ?_⟩
  rw [hw.cell (p := ⟨b, o + k * m + j, none⟩) hb]
  have hj : j < m := by
    have := (List.getElem?_eq_some_iff.1 hv).1
    rwa [hC] at this
  have := hc (k * m + j) v (by rw [flat_get C m hC l k hk j hj]; exact hv)
  rwa [← Nat.add_assoc] at this
def RetStrs (l : List (List UInt8)) (w : World) (e : Ending) (w' : World) : Prop :=
  ∃ A c, e = .returned (.slice A l.length c) ∧ Rd w' 1 A l.length (strC l) ∧ Below w.heap.size w w'
theorem ret_strs {l : List (List UInt8)} {w w' : World} {n : Nat} (A : Option Addr) (c : Nat) (xs : List (List UInt8)) (h : l = xs) (hn : n = xs.length) (hr : Rd w' 1 A n (strC xs)) (hb : Below w.heap.size w w') :
    RetStrs l w (.returned (.slice A n c)) w' := by
  subst h hn
  exact ⟨A, c, rfl, hr, hb⟩
/-- a text comes back, below nothing turns -/
def RetStr (l : List UInt8) (w : World) (e : Ending) (w' : World) : Prop := e = .returned (.string ⟨l.toArray⟩) ∧ Below w.heap.size w w'
theorem ret_st {l l' : List UInt8} {w w' : World} (h : l = l') (hb : Below w.heap.size w w') : RetStr l w (.returned (.string ⟨l'.toArray⟩)) w' := ⟨by rw [h], hb⟩
end Go.Proofs.YthmoplkleopahaaDoor
