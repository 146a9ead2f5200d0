/- Small laws on bytes, lists and strings: no program in sight. -/
import Derived.Lib.Strings
import Derived.Lib.UnsafeStr
import Derived.Deep.Draws
import Derived.OwnWalk
import Derived.Lib.Hide
import Derived.Below
namespace Go.Proofs.YtoehakekjlebdaaGreatDoor
open Go.RowKit

theorem ret_bool {a b : Bool} (h : a = b) : Ending.returned (.bool a) = .returned (.bool b) := by rw [h]
theorem ret_int {k : IntKind} {a b : Int} (h : a = b) : Ending.returned (.int k a) = .returned (.int k b) := by rw [h]
theorem ret_str {a b : List UInt8} (h : a = b) : Ending.returned (.string ⟨a.toArray⟩) = .returned (.string ⟨b.toArray⟩) := by rw [h]
theorem flip_same {P : Program} {f : FuncId} {args : Array Value} {w : World} {x : Ending} (h : Calls P f args w fun e w' => e = x ∧ w' = w) : Calls P f args w fun e w' => e = x ∧ w = w' :=
  h.mono fun _ _ ⟨a, b⟩ => ⟨a, b.symm⟩
theorem len_data (t : ByteArray) : t.data.toList.length = t.size := by simp
theorem str_cat (a b : List UInt8) : ByteArray.mk a.toArray ++ ByteArray.mk b.toArray = ByteArray.mk (a ++ b).toArray := by
  apply ByteArray.ext
  simp
theorem str_snoc (l : List UInt8) (b : ByteArray) : ByteArray.mk l.toArray ++ b = ByteArray.mk (l ++ b.data.toList).toArray := by
  apply ByteArray.ext
  simp
theorem str_mk (b : ByteArray) : ByteArray.mk b.data.toList.toArray = b := by
  apply ByteArray.ext
  simp
theorem size_mk (l : List UInt8) : (ByteArray.mk l.toArray).size = l.length := by simp [ByteArray.size]
theorem size_cat (a b : List UInt8) : (ByteArray.mk a.toArray ++ ByteArray.mk b.toArray).size = a.length + b.length := by
  rw [str_cat, size_mk]; simp
theorem byte_lt (c : UInt8) : c.toNat < 256 := c.toNat_lt
theorem drop_at (s : ByteArray) (i : Nat) (h : i < s.size) : s.data.toList.drop i = s[i] :: s.data.toList.drop (i + 1) := by
  have h' : i < s.data.toList.length := by simpa using h
  exact List.drop_eq_getElem_cons h'
theorem ext_mid (s : ByteArray) (a b : Nat) : s.extract a b = ⟨((s.data.toList.drop a).take (b - a)).toArray⟩ := by
  apply ByteArray.ext
  apply Array.toList_inj.1
  rw [Lib.extract_data]
theorem byteCells_snoc (l : List UInt8) (c : Int) (h0 : 0 ≤ c) (h1 : c < 256) : Lib.byteCells l ++ [.int .u8 c] = Lib.byteCells (l ++ [c.toNat.toUInt8]) := by
  obtain ⟨n, rfl⟩ := Int.eq_ofNat_of_zero_le h0
  have : n % 256 = n := Nat.mod_eq_of_lt (by omega)
  simp [Lib.byteCells, this]

/-- the slice with address A and n elements of k cells each reads as the cells xs -/
structure Rd (w : World) (k : Nat) (A : Option Addr) (n : Nat) (xs : List Value) : Prop where
  len : xs.length = n * k
  cells : 0 < xs.length → ∃ b o, A = some ⟨b, o, none⟩ ∧ b < w.heap.size ∧ ∀ j u, xs[j]? = some u → w.cell? ⟨b, o + j, none⟩ = some u
theorem Rd.below {w w' : World} {k n : Nat} {A : Option Addr} {xs : List Value} (h : Rd w k A n xs) (hb : Below w.heap.size w w') : Rd w' k A n xs :=
  ⟨h.len, fun hj => by
    obtain ⟨b, o, e, hl, hc⟩ := h.cells hj
    exact ⟨b, o, e, Nat.lt_of_lt_of_le hl hb.size, fun j u hu => (hb.cell (p := ⟨b, o + j, none⟩) hl).trans (hc j u hu)⟩⟩
theorem add_off (g j : Nat) : (⟨g, 0, none⟩ : Addr).add j = ⟨g, 0 + j, none⟩ := by unfold Addr.add; split <;> simp_all
theorem add_plain' (b o j : Nat) : (⟨b, o, none⟩ : Addr).add j = ⟨b, o + j, none⟩ := by unfold Addr.add; split <;> simp_all
theorem Rd.own {w : World} {base e k n : Nat} {A : Option Addr} {c : Nat} {xs : List Value} (h : w.ownsRow base e k (.slice A n c) n xs) : Rd w k A n xs := by
  refine ⟨h.1, fun hj => ?_⟩
  rcases h.2 with ⟨h1, h2⟩ | ⟨g, cap, cur, hv, _, hg, _⟩
  · have := h.1; subst h2; simp at this; subst this; simp at hj
  · injection hv with h1 h2 h3
    subst h1
    have hlt := (h.lt g rfl).2
    exact ⟨g, 0, rfl, hlt, fun j u hu => by rw [← add_off]; exact h.cells rfl j u hu⟩
theorem Rd.nil (w : World) (k : Nat) (A : Option Addr) : Rd w k A 0 [] := ⟨by simp, fun hj => by simp at hj⟩
theorem ownsRow_form {w : World} {base e k n : Nat} {v : Value} {xs : List Value} (h : w.ownsRow base e k v n xs) : ∃ A c, v = .slice A n c := by
  rcases h.2 with ⟨h1, h2⟩ | ⟨g, cap, cur, hv, _⟩
  · exact ⟨none, 0, by rw [h1, h2]⟩
  · exact ⟨_, _, hv⟩
theorem ownsRow_below {w w' : World} {base e k n : Nat} {v : Value} {xs : List Value} (h : w.ownsRow base e k v n xs) (hb : Below w.heap.size w w') : w'.ownsRow base e k v n xs := by
  refine ⟨h.1, ?_⟩
  rcases h.2 with h1 | ⟨g, cap, cur, hv, hge, hg, rest⟩
  · exact .inl h1
  · have hlt : g < w.heap.size := (h.lt g (by rw [hv]; rfl)).2
    exact .inr ⟨g, cap, cur, hv, hge, (hb.block g hlt).trans hg, rest⟩
theorem ownsRow_base {w : World} {base base' e k n : Nat} {v : Value} {xs : List Value} (h : w.ownsRow base e k v n xs) (hb : base' ≤ base) : w.ownsRow base' e k v n xs := by
  refine ⟨h.1, ?_⟩
  rcases h.2 with h1 | ⟨g, cap, cur, hv, hge, rest⟩
  · exact .inl h1
  · exact .inr ⟨g, cap, cur, hv, by omega, rest⟩
theorem below_grown {B : Nat} {a w w' : World} {row : Option Nat} (h : Below B a w) (hB : B ≤ w.heap.size) (hg : w.grownBy w' row) (hr : ∀ g, row = some g → B ≤ g) : Below B a w' :=
  h.trans ⟨hg.os, hg.tape, hg.output, hg.size, fun k hk => hg.block k (by omega) (fun e => by have := hr k e.symm; omega)⟩
theorem bdN {B : Nat} {a w : World} (h : Below B a w) (n : Nat) : Below B a (w.drewN n) := h.trans ⟨rfl, rfl, rfl, Nat.le_refl _, fun _ _ => rfl⟩
theorem below_new (w : World) (o : Obj) : Below w.heap.size w (w.alloc o) := (Below.refl _ _).alloc (Nat.le_refl _) _
/-- one step more, at the size of the first world -/
theorem bon {w w1 w2 : World} (h : Below w.heap.size w w1) (k : Below w1.heap.size w1 w2) : Below w.heap.size w w2 := h.trans (k.mono h.size)
theorem cell_new (W : World) (cs : List Value) (T : TypeId) (b : Nat) (hb : b = W.heap.size) : ∀ j u, cs[j]? = some u → (W.alloc (.cells cs.toArray T)).cell? ((⟨b, 0, none⟩ : Addr).add j) = some u := by
  intro j u h
  subst hb
  rw [show ((⟨W.heap.size, 0, none⟩ : Addr).add j) = ⟨W.heap.size, j, none⟩ from by unfold Addr.add; split <;> simp_all]
  have h1 : (W.alloc (.cells cs.toArray T)).heap[W.heap.size]? = some (.cells cs.toArray T) := by
    show (W.heap.push _)[W.heap.size]? = _
    simp
  simp only [World.cell?]
  rw [h1]
  simpa using h
/-- a new row -/
theorem rd_new (w : World) (k n : Nat) (cs : List Value) (T : TypeId) (h : cs.length = n * k) : Rd (w.alloc (.cells cs.toArray T)) k (some ⟨w.heap.size, 0, none⟩) n cs :=
  ⟨h, fun _ => ⟨w.heap.size, 0, rfl, by simp, fun j u hu => by rw [← add_off]; exact cell_new w cs T _ rfl j u hu⟩⟩
/-- the cells of strings -/
def strC (l : List (List UInt8)) : List Value := l.map fun x => .string ⟨x.toArray⟩
theorem strC_snoc (l : List (List UInt8)) (x : List UInt8) : strC (l ++ [x]) = strC l ++ [.string ⟨x.toArray⟩] := by simp [strC]
theorem strC_len (l : List (List UInt8)) : (strC l).length = l.length := by simp [strC]
/-- the cells of ints -/
def intC (l : List Int) : List Value := l.map fun x => .int .i64 x
theorem intC_len (l : List Int) : (intC l).length = l.length := by simp [intC]
/-- the cells of element k, in a row of elements of m cells each -/
theorem flat_get {α : Type} (C : α → List Value) (m : Nat) (hC : ∀ x, (C x).length = m) (l : List α) (k : Nat) (hk : k < l.length) (j : Nat) (hj : j < m) : (l.flatMap C)[k * m + j]? = (C l[k])[j]? := by
  induction l generalizing k with
  | nil => simp at hk
  | cons x r ih =>
    cases k with
    | zero => simp only [List.flatMap_cons, Nat.zero_mul, Nat.zero_add, List.getElem_cons_zero]; rw [List.getElem?_append_left (by rw [hC]; exact hj)]
    | succ k =>
      have := ih k (by simpa using hk)
      simp only [List.flatMap_cons, List.getElem_cons_succ]
      rw [List.getElem?_append_right (by rw [hC, Nat.succ_mul]; omega), hC, show (k + 1) * m + j - m = k * m + j from by rw [Nat.succ_mul]; omega, this]
theorem flat_len {α : Type} (C : α → List Value) (m : Nat) (hC : ∀ x, (C x).length = m) (l : List α) : (l.flatMap C).length = l.length * m := by
  induction l with
  | nil => simp
  | cons x r ih => simp only [List.flatMap_cons, List.length_append, List.length_cons] at ih ⊢; rw [ih, hC, Nat.succ_mul]; omega
/-- a cell of element k of a row, in a later world -/
theorem Rd.at {α : Type} {w _w' : World} {m : Nat} {A : Option Addr} {l : List α} {C : α → List Value} (h : Rd w m A l.length (l.flatMap C)) (hC : ∀ x, (C x).length = m) (hm : 0 < m) {k : Nat} (hk : k < l.length) :
    ∃ b o, A = some ⟨b, o, none⟩ ∧ b < w.heap.size ∧ ∀ w', Below w.heap.size w w' → ∀ j v, (C l[k])[j]? = some v → w'.cell? ⟨b, o + k * m + j, none⟩ = some v := by
  have hp : 0 < l.length * m := Nat.mul_pos (by omega) hm
  obtain ⟨b, o, rfl, hb, hc⟩ := h.cells (by rw [flat_len C m hC]; exact hp)
  refine ⟨b, o, rfl, hb, fun w' hw j v hv => ?_⟩
  rw [hw.cell (p := ⟨b, o + k * m + j, none⟩) hb]
  have hj : j < m := by
    have := (List.getElem?_eq_some_iff.1 hv).1
    rwa [hC] at this
  have := hc (k * m + j) v (by rw [flat_get C m hC l k hk j hj]; exact hv)
  rwa [← Nat.add_assoc] at this
def RetStrs (l : List (List UInt8)) (w : World) (e : Ending) (w' : World) : Prop :=
  ∃ A c, e = .returned (.slice A l.length c) ∧ Rd w' 1 A l.length (strC l) ∧ Below w.heap.size w w'
theorem ret_strs {l : List (List UInt8)} {w w' : World} {n : Nat} (A : Option Addr) (c : Nat) (xs : List (List UInt8)) (h : l = xs) (hn : n = xs.length) (hr : Rd w' 1 A n (strC xs)) (hb : Below w.heap.size w w') :
    RetStrs l w (.returned (.slice A n c)) w' := by
  subst h hn
  exact ⟨A, c, rfl, hr, hb⟩
/-- a text comes back, below nothing turns -/
def RetStr (l : List UInt8) (w : World) (e : Ending) (w' : World) : Prop := e = .returned (.string ⟨l.toArray⟩) ∧ Below w.heap.size w w'
theorem ret_st {l l' : List UInt8} {w w' : World} (h : l = l') (hb : Below w.heap.size w w') : RetStr l w (.returned (.string ⟨l'.toArray⟩)) w' := ⟨by rw [h], hb⟩
end Go.Proofs.YtoehakekjlebdaaGreatDoor
/- Varints, strings, lists of strings and of integers as bytes: what they are, and how long. -/
namespace Go.Proofs.YtoehakekjlebdaaGreatDoor

def varint (n : Nat) : List UInt8 := if n < 128 then [n.toUInt8] else (128 + n % 128).toUInt8 :: varint (n / 128)
termination_by n
decreasing_by omega
theorem varint_small (n : Nat) (h : n < 128) : varint n = [n.toUInt8] := by rw [varint, if_pos h]
theorem varint_big (n : Nat) (h : ¬ n < 128) : varint n = (128 + n % 128).toUInt8 :: varint (n / 128) := by rw [varint, if_neg h]
theorem varint_len : ∀ (k n : Nat), n < 128 ^ (k + 1) → (varint n).length ≤ k + 1
  | 0, n, h => by rw [varint_small n (by simpa using h)]; simp
  | k + 1, n, h => by
    by_cases hn : n < 128
    · rw [varint_small n hn]; simp
    · rw [varint_big n hn]
      have := varint_len k (n / 128) (by rw [Nat.div_lt_iff_lt_mul (by omega)]; rw [Nat.pow_succ] at h; omega)
      simp only [List.length_cons]
      omega
theorem varint_ten (n : Nat) (h : n < 18446744073709551616) : (varint n).length ≤ 10 := varint_len 9 n (by omega)
theorem varint_pos (n : Nat) : 1 ≤ (varint n).length := by
  by_cases h : n < 128
  · rw [varint_small n h]; simp
  · rw [varint_big n h]; simp

/-- the number whose varint is the code of an integer -/
def zig (n : Int) : Nat := if 0 ≤ n then (2 * n).toNat else (-2 * n - 1).toNat
theorem zig_lt (n : Int) (h0 : -9223372036854775808 ≤ n) (h1 : n ≤ 9223372036854775807) : zig n < 18446744073709551616 := by
  unfold zig; split <;> omega
def I64 (n : Int) : Prop := -9223372036854775808 ≤ n ∧ n ≤ 9223372036854775807

def putStr (s : List UInt8) : List UInt8 := varint s.length ++ s
def putList (l : List (List UInt8)) : List UInt8 := varint l.length ++ l.flatMap putStr
def putInts (l : List Int) : List UInt8 := varint l.length ++ l.flatMap fun n => varint (zig n)
/-- the bytes of a list, all told -/
def tot (ls : List (List UInt8)) : Nat := (ls.map List.length).sum
theorem tot_cons (x : List UInt8) (r : List (List UInt8)) : tot (x :: r) = x.length + tot r := by simp [tot]
theorem tot_snoc (ls : List (List UInt8)) (x : List UInt8) : tot (ls ++ [x]) = tot ls + x.length := by simp [tot]
theorem tot_take (ls : List (List UInt8)) (k : Nat) : tot (ls.take k) ≤ tot ls := by
  induction ls generalizing k with
  | nil => simp
  | cons x r ih =>
    cases k with
    | zero => simp [tot]
    | succ k => have := ih k; rw [List.take_succ_cons, tot_cons, tot_cons]; omega
theorem tot_get (ls : List (List UInt8)) (k : Nat) (h : k < ls.length) : ls[k].length ≤ tot ls := by
  have := tot_take ls (k + 1)
  rw [List.take_succ_eq_append_getElem h, tot_snoc] at this
  omega
theorem putStr_len (s : List UInt8) (h : s.length < 18446744073709551616) : (putStr s).length ≤ 10 + s.length := by
  have := varint_ten s.length h
  simp only [putStr, List.length_append]; omega
theorem strs_len (l : List (List UInt8)) (h : tot l < 18446744073709551616) : (l.flatMap putStr).length ≤ 10 * l.length + tot l := by
  induction l with
  | nil => simp
  | cons x r ih =>
    rw [tot_cons] at h ⊢
    have h1 := putStr_len x (by omega)
    have h2 := ih (by omega)
    simp only [List.flatMap_cons, List.length_append, List.length_cons] at h2 ⊢
    omega
theorem putList_len (l : List (List UInt8)) (h : tot l < 18446744073709551616) (h2 : l.length < 18446744073709551616) : (putList l).length ≤ 10 + 10 * l.length + tot l := by
  have h1 := strs_len l h
  have h3 := varint_ten l.length h2
  simp only [putList, List.length_append]; omega
theorem ints_len (l : List Int) (h : ∀ n ∈ l, I64 n) : (l.flatMap fun n => varint (zig n)).length ≤ 10 * l.length := by
  induction l with
  | nil => simp
  | cons x r ih =>
    have h1 := varint_ten (zig x) (zig_lt x (h x (by simp)).1 (h x (by simp)).2)
    have h2 := ih (fun n hn => h n (by simp [hn]))
    simp only [List.flatMap_cons, List.length_append, List.length_cons] at h2 ⊢
    omega
theorem putInts_len (l : List Int) (h : ∀ n ∈ l, I64 n) (h2 : l.length < 18446744073709551616) : (putInts l).length ≤ 10 + 10 * l.length := by
  have h1 := ints_len l h
  have h3 := varint_ten l.length h2
  simp only [putInts, List.length_append]; omega
end Go.Proofs.YtoehakekjlebdaaGreatDoor
/- Reading varints, strings, lists: what is read, and that what was put is read again. -/
namespace Go.Proofs.YtoehakekjlebdaaGreatDoor

/-- the number at the beginning: k bytes have been read, they mean a -/
def getVAt : Nat → Nat → Nat → List UInt8 → Option (Nat × Nat)
  | 0, _, _, _ => none
  | _ + 1, _, _, [] => none
  | f + 1, k, a, c :: r =>
    if 128 ≤ c.toNat then getVAt f (k + 1) (a + (c.toNat - 128) * 128 ^ k) r
    else if 18446744073709551616 ≤ c.toNat * 128 ^ k then none
    else if c.toNat = 0 ∧ 0 < k then none
    else some (a + c.toNat * 128 ^ k, k + 1)
def getV (s : List UInt8) : Option (Nat × Nat) := getVAt 10 0 0 s
def getStr (s : List UInt8) : Option (List UInt8 × Nat) :=
  match getV s with
  | none => none
  | some (n, k) => if s.length - k < n then none else some ((s.drop k).take n, k + n)
/-- n parts, one after the other -/
def getMany {α : Type} (g : List UInt8 → Option (α × Nat)) : Nat → List UInt8 → Option (List α × Nat)
  | 0, _ => some ([], 0)
  | n + 1, s => match g s with
    | none => none
    | some (x, k) => match getMany g n (s.drop k) with
      | none => none
      | some (xs, m) => some (x :: xs, k + m)
def getAll {α : Type} (g : List UInt8 → Option (α × Nat)) (s : List UInt8) : Option (List α × Nat) :=
  match getV s with
  | none => none
  | some (n, k) => match getMany g n (s.drop k) with
    | none => none
    | some (xs, m) => some (xs, k + m)
def getList (s : List UInt8) : Option (List (List UInt8) × Nat) := getAll getStr s
/-- the integer of a number -/
def unzig (n : Nat) : Int := if n % 2 = 0 then (n / 2 : Nat) else -((n / 2 : Nat) : Int) - 1
def getInt (s : List UInt8) : Option (Int × Nat) := (getV s).map fun x => (unzig x.1, x.2)
def getInts (s : List UInt8) : Option (List Int × Nat) := getAll getInt s

theorem step_fit' : ∀ (c : Fin 128) (k : Fin 10), c.val * 128 ^ k.val < 18446744073709551616 → (c.val + 1) * 128 ^ k.val ≤ 18446744073709551616 := by decide +kernel
theorem step_fit (a c k : Nat) (hc : c < 128) (hk : k ≤ 9) (ha : a < 128 ^ k) (h : ¬ 18446744073709551616 ≤ c * 128 ^ k) : a + c * 128 ^ k < 18446744073709551616 := by
  have := step_fit' ⟨c, hc⟩ ⟨k, by omega⟩ (by simpa using h)
  simp only [Nat.add_mul] at this
  omega
theorem getVAt_le : ∀ (f k a : Nat) (s : List UInt8) (n m : Nat), getVAt f k a s = some (n, m) → k < m ∧ m ≤ k + f ∧ m ≤ k + s.length
  | 0, _, _, _, _, _, h => by simp [getVAt] at h
  | _ + 1, _, _, [], _, _, h => by simp [getVAt] at h
  | f + 1, k, a, c :: r, n, m, h => by
    rw [getVAt] at h
    split at h
    · have := getVAt_le f (k + 1) _ r n m h
      simp only [List.length_cons]; omega
    · split at h
      · simp at h
      · split at h
        · simp at h
        · simp only [Option.some.injEq, Prod.mk.injEq] at h
          simp only [List.length_cons]; omega
theorem getV_le {s : List UInt8} {n k : Nat} (h : getV s = some (n, k)) : 0 < k ∧ k ≤ 10 ∧ k ≤ s.length := by
  have := getVAt_le 10 0 0 s n k h; omega
theorem getVAt_lt : ∀ (f k a : Nat) (s : List UInt8) (n m : Nat), f + k = 10 → a < 128 ^ k → getVAt f k a s = some (n, m) → n < 18446744073709551616
  | 0, _, _, _, _, _, _, _, h => by simp [getVAt] at h
  | _ + 1, _, _, [], _, _, _, _, h => by simp [getVAt] at h
  | f + 1, k, a, c :: r, n, m, hk, ha, h => by
    have hpow : 128 ^ (k + 1) = 128 ^ k * 128 := Nat.pow_succ 128 k
    rw [getVAt] at h
    split at h
    · have hc := c.toNat_lt
      have hmul : (c.toNat - 128) * 128 ^ k ≤ 127 * 128 ^ k := Nat.mul_le_mul_right _ (by omega)
      exact getVAt_lt f (k + 1) _ r n m (by omega) (by omega) h
    · rename_i hc
      split at h
      · simp at h
      · rename_i hb
        split at h
        · simp at h
        · simp only [Option.some.injEq, Prod.mk.injEq] at h
          obtain ⟨rfl, rfl⟩ := h
          exact step_fit a _ k (by omega) (by omega) ha hb
theorem getStr_le {s x : List UInt8} {k : Nat} (h : getStr s = some (x, k)) : 0 < k ∧ k ≤ s.length ∧ x.length < k := by
  unfold getStr at h
  split at h
  · simp at h
  · rename_i n m hv
    have hl := getV_le hv
    split at h
    · simp at h
    · simp only [Option.some.injEq, Prod.mk.injEq] at h
      obtain ⟨rfl, rfl⟩ := h
      simp only [List.length_take, List.length_drop]
      omega
theorem getVAt_put : ∀ (f n k a : Nat) (r : List UInt8), n < 128 ^ f → 0 < f → n * 128 ^ k < 18446744073709551616 → (0 < k → 0 < n) → getVAt f k a (varint n ++ r) = some (a + n * 128 ^ k, k + (varint n).length)
  | 0, _, _, _, _, _, h0, _, _ => by omega
  | f + 1, n, k, a, r, hn, _, hb, hp => by
    have hpos : 0 < 128 ^ k := Nat.pow_pos (by omega)
    by_cases h : n < 128
    · have ht : n.toUInt8.toNat = n := by simp; omega
      rw [varint_small n h]
      simp only [List.cons_append, List.nil_append, List.length_cons, List.length_nil]
      rw [getVAt, ht, if_neg (by omega), if_neg (by omega), if_neg (by omega)]
    · have ht : ((128 + n % 128).toUInt8).toNat = 128 + n % 128 := by simp; omega
      rw [varint_big n h]
      simp only [List.cons_append, List.length_cons]
      have hdm : n = 128 * (n / 128) + n % 128 := (Nat.div_add_mod n 128).symm
      have hb2 : n / 128 * 128 ^ (k + 1) ≤ n * 128 ^ k := by
        rw [Nat.pow_succ, Nat.mul_comm (128 ^ k) 128, ← Nat.mul_assoc]
        exact Nat.mul_le_mul_right _ (by omega)
      have hf : n / 128 < 128 ^ f := by rw [Nat.div_lt_iff_lt_mul (by omega)]; rw [Nat.pow_succ] at hn; omega
      have hf0 : 0 < f := by
        rcases Nat.eq_zero_or_pos f with h0 | h0
        · subst h0; simp at hn; omega
        · exact h0
      rw [getVAt, ht, if_pos (by omega), getVAt_put f (n / 128) (k + 1) _ r hf hf0 (by omega) (by omega)]
      congr 1
      congr 1
      · rw [show 128 + n % 128 - 128 = n % 128 from by omega, Nat.pow_succ, Nat.add_assoc]
        congr 1
        rw [Nat.mul_comm (128 ^ k) 128, ← Nat.mul_assoc, ← Nat.add_mul]
        congr 1
        omega
      · omega
theorem getV_put (n : Nat) (r : List UInt8) (h : n < 18446744073709551616) : getV (varint n ++ r) = some (n, (varint n).length) := by
  have := getVAt_put 10 n 0 0 r (by omega) (by omega) (by omega) (by omega)
  simpa [getV] using this
theorem getStr_put (x r : List UInt8) (h : x.length < 18446744073709551616) : getStr (putStr x ++ r) = some (x, (putStr x).length) := by
  unfold getStr putStr
  rw [List.append_assoc, getV_put x.length (x ++ r) h]
  simp only []
  rw [if_neg (by simp)]
  simp
theorem getMany_put {α : Type} (g : List UInt8 → Option (α × Nat)) (put : α → List UInt8) (l : List α) (hg : ∀ x ∈ l, ∀ r, g (put x ++ r) = some (x, (put x).length)) (r : List UInt8) :
    getMany g l.length (l.flatMap put ++ r) = some (l, (l.flatMap put).length) := by
  induction l with
  | nil => rfl
  | cons x t ih =>
    simp only [List.flatMap_cons, List.length_cons, getMany, List.append_assoc]
    rw [hg x (by simp)]
    simp only [List.drop_left]
    rw [ih (fun y hy => hg y (by simp [hy]))]
    simp
theorem getAll_put {α : Type} (g : List UInt8 → Option (α × Nat)) (put : α → List UInt8) (l : List α) (hl : l.length < 18446744073709551616) (hg : ∀ x ∈ l, ∀ r, g (put x ++ r) = some (x, (put x).length)) (r : List UInt8) :
    getAll g ((varint l.length ++ l.flatMap put) ++ r) = some (l, (varint l.length ++ l.flatMap put).length) := by
  unfold getAll
  rw [List.append_assoc, getV_put _ _ hl]
  simp only [List.drop_left]
  rw [getMany_put g put l hg]
  simp
theorem getList_put (l : List (List UInt8)) (r : List UInt8) (hl : l.length < 18446744073709551616) (hx : ∀ x ∈ l, x.length < 18446744073709551616) : getList (putList l ++ r) = some (l, (putList l).length) :=
  getAll_put getStr putStr l hl (fun x h r => getStr_put x r (hx x h)) r
theorem unzig_zig (n : Int) : unzig (zig n) = n := by
  unfold unzig zig
  split <;> split <;> omega
theorem getInts_put (l : List Int) (r : List UInt8) (hl : l.length < 18446744073709551616) (hx : ∀ x ∈ l, I64 x) : getInts (putInts l ++ r) = some (l, (putInts l).length) :=
  getAll_put getInt (fun n => varint (zig n)) l hl (fun x h r => by
    unfold getInt
    rw [getV_put _ _ (zig_lt x (hx x h).1 (hx x h).2)]
    simp [unzig_zig]) r
end Go.Proofs.YtoehakekjlebdaaGreatDoor
/- Messages and their parts: as values with the addresses of their rows, their cells, their encodings, their sizes. -/
namespace Go.Proofs.YtoehakekjlebdaaGreatDoor
open Go.RowKit

/-- a slice: its address, its capacity, its elements -/
structure Sl (α : Type) where
  a : Option Addr
  c : Nat
  l : List α
def Sl.v {α : Type} (s : Sl α) : Value := .slice s.a s.l.length s.c
def Sl.nil {α : Type} : Sl α := ⟨none, 0, []⟩
structure Sg where
  (server kind view slot : Int) (digest sig : List UInt8)
  deriving DecidableEq
structure St where
  (server view length lockView : Int) (lock : List UInt8) (cert : Sl Sg) (signed : Sg)
structure De where
  (view : Int) (value : List UInt8) (cert : Sl Sg)
structure Ho where
  (slot : Int) (entry : De)
structure Sn where
  (slot : Int) (root : List UInt8) (chunks : Sl (List UInt8)) (proof : Sl Sg) (chain : Sl Ho)
structure Ms where
  (kind src dst view slot : Int) (value : List UInt8) (till : Int) (signed : Sg) (statuses : Sl St) (entries : Sl De) (snapshot : Sn) (texts : Sl (List UInt8))

/-! the encodings -/
def contSg (x : Sg) : List UInt8 := putInts [x.server, x.kind, x.view, x.slot] ++ putStr x.digest
def encSg (x : Sg) : List UInt8 := contSg x ++ putStr x.sig
def encSt (s : St) : List UInt8 := putInts [s.server, s.view, s.length, s.lockView] ++ putStr s.lock ++ putList (s.cert.l.map encSg) ++ putStr (encSg s.signed)
def encDe (d : De) : List UInt8 := putInts [d.view] ++ putStr d.value ++ putList (d.cert.l.map encSg)
def encHo (h : Ho) : List UInt8 := putInts [h.slot] ++ encDe h.entry
def encSn (x : Sn) : List UInt8 := putInts [x.slot] ++ putStr x.root ++ putList x.chunks.l ++ putList (x.proof.l.map encSg) ++ putList (x.chain.l.map encHo)
def encMs (m : Ms) : List UInt8 := putInts [m.kind, m.src, m.dst, m.view, m.slot, m.till] ++ putStr m.value ++ putStr (encSg m.signed) ++ putList (m.statuses.l.map encSt) ++ putList (m.entries.l.map encDe) ++ putStr (encSn m.snapshot) ++ putList m.texts.l

/-! the cells -/
def sgC (x : Sg) : List Value := [.int .i64 x.server, .int .i64 x.kind, .int .i64 x.view, .int .i64 x.slot, .string ⟨x.digest.toArray⟩, .string ⟨x.sig.toArray⟩]
def stC (s : St) : List Value := [.int .i64 s.server, .int .i64 s.view, .int .i64 s.length, .int .i64 s.lockView, .string ⟨s.lock.toArray⟩, s.cert.v,
  .int .i64 s.signed.server, .int .i64 s.signed.kind, .int .i64 s.signed.view, .int .i64 s.signed.slot, .string ⟨s.signed.digest.toArray⟩, .string ⟨s.signed.sig.toArray⟩]
def deC (d : De) : List Value := [.int .i64 d.view, .string ⟨d.value.toArray⟩, d.cert.v]
def hoC (h : Ho) : List Value := [.int .i64 h.slot, .int .i64 h.entry.view, .string ⟨h.entry.value.toArray⟩, h.entry.cert.v]
def snC (x : Sn) : List Value := [.int .i64 x.slot, .string ⟨x.root.toArray⟩, x.chunks.v, x.proof.v, x.chain.v]
def msC (m : Ms) : List Value := [.int .i64 m.kind, .int .i64 m.src, .int .i64 m.dst, .int .i64 m.view, .int .i64 m.slot, .string ⟨m.value.toArray⟩, .int .i64 m.till,
  .int .i64 m.signed.server, .int .i64 m.signed.kind, .int .i64 m.signed.view, .int .i64 m.signed.slot, .string ⟨m.signed.digest.toArray⟩, .string ⟨m.signed.sig.toArray⟩,
  m.statuses.v, m.entries.v, .int .i64 m.snapshot.slot, .string ⟨m.snapshot.root.toArray⟩, m.snapshot.chunks.v, m.snapshot.proof.v, m.snapshot.chain.v, m.texts.v]
def strV (x : List UInt8) : List Value := [.string ⟨x.toArray⟩]

/-! what stands in memory, and the ranges -/
def Sl.rd {α : Type} (k : Nat) (C : α → List Value) (s : Sl α) (w : World) : Prop := Rd w k s.a s.l.length (s.l.flatMap C)
def Sg.ok (x : Sg) : Prop := I64 x.server ∧ I64 x.kind ∧ I64 x.view ∧ I64 x.slot
def St.ok (s : St) (w : World) : Prop := (I64 s.server ∧ I64 s.view ∧ I64 s.length ∧ I64 s.lockView) ∧ s.cert.rd 6 sgC w ∧ (∀ x ∈ s.cert.l, x.ok) ∧ s.signed.ok
def De.ok (d : De) (w : World) : Prop := I64 d.view ∧ d.cert.rd 6 sgC w ∧ ∀ x ∈ d.cert.l, x.ok
def Ho.ok (h : Ho) (w : World) : Prop := I64 h.slot ∧ h.entry.ok w
def Sn.ok (x : Sn) (w : World) : Prop := I64 x.slot ∧ x.chunks.rd 1 strV w ∧ (x.proof.rd 6 sgC w ∧ ∀ y ∈ x.proof.l, y.ok) ∧ x.chain.rd 4 hoC w ∧ ∀ h ∈ x.chain.l, h.ok w
def Ms.ok (m : Ms) (w : World) : Prop := (I64 m.kind ∧ I64 m.src ∧ I64 m.dst ∧ I64 m.view ∧ I64 m.slot ∧ I64 m.till) ∧ m.signed.ok ∧ (m.statuses.rd 12 stC w ∧ ∀ s ∈ m.statuses.l, s.ok w) ∧
  (m.entries.rd 3 deC w ∧ ∀ d ∈ m.entries.l, d.ok w) ∧ m.snapshot.ok w ∧ m.texts.rd 1 strV w
theorem Sl.rd_below {α : Type} {k : Nat} {C : α → List Value} {s : Sl α} {w w' : World} (h : s.rd k C w) (hb : Below w.heap.size w w') : s.rd k C w' := Rd.below h hb
theorem St.below {s : St} {w w' : World} (h : s.ok w) (hb : Below w.heap.size w w') : s.ok w' := ⟨h.1, Sl.rd_below h.2.1 hb, h.2.2⟩
theorem De.below {s : De} {w w' : World} (h : s.ok w) (hb : Below w.heap.size w w') : s.ok w' := ⟨h.1, Sl.rd_below h.2.1 hb, h.2.2⟩
theorem Ho.below {s : Ho} {w w' : World} (h : s.ok w) (hb : Below w.heap.size w w') : s.ok w' := ⟨h.1, De.below h.2 hb⟩
theorem Sn.below {x : Sn} {w w' : World} (h : x.ok w) (hb : Below w.heap.size w w') : x.ok w' :=
  ⟨h.1, Sl.rd_below h.2.1 hb, ⟨Sl.rd_below h.2.2.1.1 hb, h.2.2.1.2⟩, Sl.rd_below h.2.2.2.1 hb, fun y hy => Ho.below (h.2.2.2.2 y hy) hb⟩
theorem Ms.below {m : Ms} {w w' : World} (h : m.ok w) (hb : Below w.heap.size w w') : m.ok w' :=
  ⟨h.1, h.2.1, ⟨Sl.rd_below h.2.2.1.1 hb, fun y hy => St.below (h.2.2.1.2 y hy) hb⟩, ⟨Sl.rd_below h.2.2.2.1.1 hb, fun y hy => De.below (h.2.2.2.1.2 y hy) hb⟩, Sn.below h.2.2.2.2.1 hb, Sl.rd_below h.2.2.2.2.2 hb⟩
theorem strV_strC (l : List (List UInt8)) : l.flatMap strV = strC l := by
  induction l with
  | nil => rfl
  | cons x r ih => simp only [List.flatMap_cons, strV, strC, List.map_cons, List.cons_append, List.nil_append] at ih ⊢; rw [ih]

/-! the sizes: no more than what the reading holds -/
def sum {α : Type} (f : α → Nat) (l : List α) : Nat := (l.map f).sum
theorem sum_cons {α : Type} (f : α → Nat) (x : α) (r : List α) : sum f (x :: r) = f x + sum f r := by simp [sum]
theorem sum_nil {α : Type} (f : α → Nat) : sum f [] = 0 := rfl
theorem sum_get {α : Type} (f : α → Nat) (l : List α) (x : α) (h : x ∈ l) : f x ≤ sum f l := by
  induction l with
  | nil => simp at h
  | cons y r ih =>
    rw [sum_cons]
    rcases List.mem_cons.1 h with rfl | h
    · omega
    · have := ih h; omega
theorem sum_ge {α : Type} (f : α → Nat) (l : List α) (k : Nat) (h : ∀ x, k ≤ f x) : k * l.length ≤ sum f l := by
  induction l with
  | nil => simp
  | cons y r ih => rw [sum_cons, List.length_cons, Nat.mul_succ]; have := h y; omega
def Sg.sz (x : Sg) : Nat := x.digest.length + x.sig.length + 7
def szS (x : List UInt8) : Nat := x.length + 1
def St.sz (s : St) : Nat := s.lock.length + sum Sg.sz s.cert.l + s.signed.sz + 7
def De.sz (d : De) : Nat := d.value.length + sum Sg.sz d.cert.l + 4
def Ho.sz (h : Ho) : Nat := h.entry.sz + 2
def Sn.sz (x : Sn) : Nat := x.root.length + sum szS x.chunks.l + sum Sg.sz x.proof.l + sum Ho.sz x.chain.l + 6
def Ms.sz (m : Ms) : Nat := m.value.length + m.signed.sz + sum St.sz m.statuses.l + sum De.sz m.entries.l + m.snapshot.sz + sum szS m.texts.l + 11
theorem Sg.sz_ge (x : Sg) : 7 ≤ x.sz := by unfold Sg.sz; omega
theorem szS_ge (x : List UInt8) : 1 ≤ szS x := by unfold szS; omega
theorem St.sz_ge (x : St) : 14 ≤ x.sz := by have := x.signed.sz_ge; unfold St.sz; omega
theorem De.sz_ge (x : De) : 4 ≤ x.sz := by unfold De.sz; omega
theorem Ho.sz_ge (x : Ho) : 6 ≤ x.sz := by have := x.entry.sz_ge; unfold Ho.sz; omega

theorem tot_map {α : Type} (enc : α → List UInt8) (f : α → Nat) (c : Nat) (l : List α) (h : ∀ x ∈ l, (enc x).length ≤ c * f x) : tot (l.map enc) ≤ c * sum f l := by
  induction l with
  | nil => simp [tot]
  | cons x r ih =>
    have h1 := h x (by simp)
    have h2 := ih (fun y hy => h y (by simp [hy]))
    rw [List.map_cons, tot_cons, sum_cons, Nat.mul_add]
    omega
theorem tot_strs (l : List (List UInt8)) : tot l ≤ sum szS l := by
  induction l with
  | nil => simp [tot, sum]
  | cons x r ih => rw [tot_cons, sum_cons]; unfold szS at ih ⊢; omega
theorem encSg_len (x : Sg) (h : x.ok) (hs : x.sz ≤ 16777216) : (encSg x).length ≤ 10 * x.sz := by
  have h1 := putInts_len [x.server, x.kind, x.view, x.slot] (by simpa [List.forall_mem_cons, Sg.ok] using h) (by simp)
  unfold Sg.sz at hs ⊢
  have h2 := putStr_len x.digest (by omega)
  have h3 := putStr_len x.sig (by omega)
  simp only [encSg, contSg, List.length_append, List.length_cons, List.length_nil] at h1 ⊢
  omega
theorem cert_len (l : List Sg) (h : ∀ x ∈ l, x.ok) (hs : sum Sg.sz l ≤ 16777216) : (putList (l.map encSg)).length ≤ 10 + 12 * sum Sg.sz l ∧ tot (l.map encSg) ≤ 10 * sum Sg.sz l ∧ 7 * l.length ≤ sum Sg.sz l := by
  have h0 := sum_ge Sg.sz l 7 Sg.sz_ge
  have h1 := tot_map encSg Sg.sz 10 l (fun x hx => encSg_len x (h x hx) (by have := sum_get Sg.sz l x hx; omega))
  have h2 := putList_len (l.map encSg) (by omega) (by simp; omega)
  simp only [List.length_map] at h2
  exact ⟨by omega, h1, h0⟩
theorem encSt_len (s : St) (w : World) (h : s.ok w) (hs : s.sz ≤ 16777216) : (encSt s).length ≤ 12 * s.sz := by
  have h1 := putInts_len [s.server, s.view, s.length, s.lockView] (by simpa [List.forall_mem_cons] using h.1) (by simp)
  unfold St.sz at hs ⊢
  have h2 := putStr_len s.lock (by omega)
  have h3 := (cert_len s.cert.l h.2.2.1 (by omega)).1
  have h4 := encSg_len s.signed h.2.2.2 (by omega)
  have h5 := putStr_len (encSg s.signed) (by omega)
  simp only [encSt, List.length_append, List.length_cons, List.length_nil] at h1 ⊢
  omega
theorem encDe_len (d : De) (w : World) (h : d.ok w) (hs : d.sz ≤ 16777216) : (encDe d).length ≤ 12 * d.sz := by
  have h1 := putInts_len [d.view] (by simpa [List.forall_mem_cons] using h.1) (by simp)
  unfold De.sz at hs ⊢
  have h2 := putStr_len d.value (by omega)
  have h3 := (cert_len d.cert.l h.2.2 (by omega)).1
  simp only [encDe, List.length_append, List.length_cons, List.length_nil] at h1 ⊢
  omega
theorem encHo_len (x : Ho) (w : World) (h : x.ok w) (hs : x.sz ≤ 16777216) : (encHo x).length ≤ 12 * x.sz := by
  have h1 := putInts_len [x.slot] (by simpa [List.forall_mem_cons] using h.1) (by simp)
  unfold Ho.sz at hs ⊢
  have h2 := encDe_len x.entry w h.2 (by omega)
  simp only [encHo, List.length_append, List.length_cons, List.length_nil] at h1 ⊢
  omega
theorem list_len {α : Type} (enc : α → List UInt8) (f : α → Nat) (l : List α) (h : ∀ x ∈ l, (enc x).length ≤ 12 * f x) (hf : ∀ x, 4 ≤ f x) (hs : sum f l ≤ 16777216) :
    (putList (l.map enc)).length ≤ 10 + 15 * sum f l ∧ tot (l.map enc) ≤ 12 * sum f l ∧ 4 * l.length ≤ sum f l := by
  have h0 := sum_ge f l 4 hf
  have h1 := tot_map enc f 12 l h
  have h2 := putList_len (l.map enc) (by omega) (by simp; omega)
  simp only [List.length_map] at h2
  exact ⟨by omega, h1, h0⟩
theorem strL_len (l : List (List UInt8)) (hs : sum szS l ≤ 16777216) : (putList l).length ≤ 10 + 11 * sum szS l ∧ tot l ≤ sum szS l ∧ l.length ≤ sum szS l := by
  have h0 := sum_ge szS l 1 szS_ge
  have h1 := tot_strs l
  have h2 := putList_len l (by omega) (by omega)
  exact ⟨by omega, h1, by omega⟩
theorem encSn_len (x : Sn) (w : World) (h : x.ok w) (hs : x.sz ≤ 16777216) : (encSn x).length ≤ 15 * x.sz := by
  have h1 := putInts_len [x.slot] (by simpa [List.forall_mem_cons] using h.1) (by simp)
  unfold Sn.sz at hs ⊢
  have h2 := putStr_len x.root (by omega)
  have h3 := (strL_len x.chunks.l (by omega)).1
  have h4 := (cert_len x.proof.l h.2.2.1.2 (by omega)).1
  have h5 := (list_len encHo Ho.sz x.chain.l (fun y hy => encHo_len y w (h.2.2.2.2 y hy) (by have := sum_get Ho.sz _ y hy; omega)) (fun y => by have := y.sz_ge; omega) (by omega)).1
  simp only [encSn, List.length_append, List.length_cons, List.length_nil] at h1 ⊢
  omega
theorem encMs_len (m : Ms) (w : World) (h : m.ok w) (hs : m.sz ≤ 16777216) : (encMs m).length ≤ 16 * m.sz := by
  have h1 := putInts_len [m.kind, m.src, m.dst, m.view, m.slot, m.till] (by simpa [List.forall_mem_cons] using h.1) (by simp)
  unfold Ms.sz at hs ⊢
  have h2 := putStr_len m.value (by omega)
  have h3 := encSg_len m.signed h.2.1 (by omega)
  have h4 := putStr_len (encSg m.signed) (by omega)
  have h5 := (list_len encSt St.sz m.statuses.l (fun y hy => encSt_len y w (h.2.2.1.2 y hy) (by have := sum_get St.sz _ y hy; omega)) (fun y => by have := y.sz_ge; omega) (by omega)).1
  have h6 := (list_len encDe De.sz m.entries.l (fun y hy => encDe_len y w (h.2.2.2.1.2 y hy) (by have := sum_get De.sz _ y hy; omega)) (fun y => y.sz_ge) (by omega)).1
  have h7 := encSn_len m.snapshot w h.2.2.2.2.1 (by omega)
  have h8 := putStr_len (encSn m.snapshot) (by omega)
  have h9 := (strL_len m.texts.l (by omega)).1
  simp only [encMs, List.length_append, List.length_cons, List.length_nil] at h1 ⊢
  omega
end Go.Proofs.YtoehakekjlebdaaGreatDoor
/- What is wrong with a message: in plain words, no program in sight. -/
namespace Go.Proofs.YtoehakekjlebdaaGreatDoor

def num (n : Int) : Bool := decide (0 ≤ n) && decide (n ≤ 2147483647)
def sgShort (x : Sg) : Bool := decide (x.digest.length ≤ 64) && decide (x.sig.length ≤ 64)
def certShort (l : List Sg) : Bool := l.all sgShort && decide (l.length ≤ 12)
def stRange (s : St) : Bool := decide (0 ≤ s.server) && decide (s.server < 12) && num s.view && num s.length && num s.lockView
def stShort (s : St) : Bool := decide (s.lock.length ≤ 2000) && certShort s.cert.l && sgShort s.signed
def deShort (d : De) : Bool := decide (d.value.length ≤ 2000) && certShort d.cert.l
def hoRange (h : Ho) : Bool := num h.slot && num h.entry.view
def rangesB (m : Ms) : Bool := m.statuses.l.all stRange && m.entries.l.all (fun d => num d.view) && m.snapshot.chain.l.all hoRange && num m.snapshot.slot
def headB (m : Ms) : Bool := decide (m.value.length ≤ 2000) && decide (m.statuses.l.length ≤ 12) && decide (m.entries.l.length ≤ 8) && decide (m.texts.l.length ≤ 500)
def rootB (m : Ms) : Bool := decide (m.snapshot.root.length ≤ 64) && decide (m.snapshot.chain.l.length ≤ 20)
def lengthsB (m : Ms) : Bool := headB m && rootB m && m.statuses.l.all stShort && m.entries.l.all deShort && m.snapshot.chain.l.all (fun h => deShort h.entry) && decide (tot m.texts.l ≤ 60000) && sgShort m.signed && certShort m.snapshot.proof.l
def emptySn (x : Sn) : Bool := decide (x.slot = 0) && decide (x.root = []) && decide (x.chunks.l.length + x.proof.l.length + x.chain.l.length = 0)
def sgZero (x : Sg) : Bool := decide (x = ⟨0, 0, 0, 0, [], []⟩)
def presL (m : Ms) : List Bool := [m.view != 0, m.slot != 0, m.till != 0, !m.value.isEmpty, !sgZero m.signed, decide (0 < m.statuses.l.length), decide (0 < m.entries.l.length), !emptySn m.snapshot, decide (0 < m.texts.l.length)]
def presN (l : List Bool) : Nat := (l.zipIdx.map fun x => if x.1 then 2 ^ x.2 else 0).sum
/-- the fields of a kind -/
def kwF (k : Int) : Nat := if k = 1 then 3 else if k = 2 then 99 else if k = 3 then 59 else if k = 4 then 19 else if k = 5 then 27 else if k = 6 then 66 else if k = 7 then 2 else if k = 8 then 1 else if k = 9 then 5 else if k = 10 then 26 else if k = 11 then 132 else if k = 12 then 271 else 0
/-- the words of the kinds -/
def kwS (k : Int) : List UInt8 := if k = 1 then [97, 115, 107] else if k = 2 then [115, 116, 97, 116, 117, 115] else if k = 3 then [112, 114, 111, 112, 111, 115, 101] else if k = 4 then [112, 114, 101, 112, 97, 114, 101] else if k = 5 then [99, 111, 109, 109, 105, 116] else if k = 6 then [108, 101, 97, 114, 110] else if k = 7 then [102, 101, 116, 99, 104] else if k = 8 then [108, 101, 97, 115, 101] else if k = 9 then [103, 114, 97, 110, 116] else if k = 10 then [115, 116, 97, 98, 108, 101] else if k = 11 then [115, 110, 97, 112, 115, 104, 111, 116] else if k = 12 then [99, 104, 117, 110, 107] else []
def alw (k : Int) (i : Nat) : Bool := (kwF k).testBit i
def spareB (m : Ms) : Bool := (presL m).zipIdx.any fun x => x.1 && !alw m.kind x.2
def partB (m : Ms) : Bool := decide (m.src < 0) || decide (12 ≤ m.src) || decide (m.dst < 0) || decide (18 ≤ m.dst) || !num m.view || !num m.slot || decide (m.till < 0)
def oneB (m : Ms) : Bool := decide (m.kind = 2) && decide (m.statuses.l.length ≠ 1)
def vMs (m : Ms) : Int :=
  if m.kind < 1 ∨ 12 < m.kind then 1 else if partB m = true then 7 else if spareB m = true ∨ oneB m = true then 1
  else if rangesB m = false then 7 else if lengthsB m = false then 3 else if 0 < m.snapshot.chunks.l.length then 1 else 0
def vSt (s : St) : Int := if stRange s = false then 7 else if stShort s = false then 3 else 0

/-- whoever is right is short -/
theorem cert_short {l : List Sg} (h : certShort l = true) : sum Sg.sz l ≤ 2000 := by
  simp only [certShort, Bool.and_eq_true, decide_eq_true_eq, List.all_eq_true] at h
  have h1 : ∀ l : List Sg, (∀ x ∈ l, sgShort x = true) → sum Sg.sz l ≤ 135 * l.length := by
    intro l
    induction l with
    | nil => intro _; simp [sum]
    | cons x r ih =>
      intro hx
      have h1 := hx x (by simp)
      have h2 := ih (fun y hy => hx y (by simp [hy]))
      simp only [sgShort, Bool.and_eq_true, decide_eq_true_eq] at h1
      rw [sum_cons, List.length_cons]
      unfold Sg.sz at *
      omega
  have := h1 l h.1
  omega
theorem st_short {s : St} (h : stShort s = true) : s.sz ≤ 4200 := by
  simp only [stShort, sgShort, Bool.and_eq_true, decide_eq_true_eq] at h
  have := cert_short h.1.2
  unfold St.sz Sg.sz
  unfold Sg.sz at this
  omega
theorem de_short {d : De} (h : deShort d = true) : d.sz ≤ 4100 := by
  simp only [deShort, Bool.and_eq_true, decide_eq_true_eq] at h
  have := cert_short h.2
  unfold De.sz
  omega
theorem sum_le_all {α : Type} (f : α → Nat) (c : Nat) (l : List α) (h : ∀ x ∈ l, f x ≤ c) : sum f l ≤ c * l.length := by
  induction l with
  | nil => simp [sum]
  | cons x r ih =>
    have h1 := h x (by simp)
    have h2 := ih (fun y hy => h y (by simp [hy]))
    rw [sum_cons, List.length_cons, Nat.mul_succ]
    omega
theorem szS_tot (l : List (List UInt8)) : sum szS l = tot l + l.length := by
  induction l with
  | nil => rfl
  | cons x r ih => rw [sum_cons, tot_cons, List.length_cons, ih]; unfold szS; omega
theorem ms_short {m : Ms} (h : vMs m = 0) : m.sz ≤ 300000 ∧ m.snapshot.chunks.l = [] := by
  unfold vMs at h
  split at h
  · simp at h
  split at h
  · simp at h
  split at h
  · simp at h
  split at h
  · simp at h
  split at h
  · simp at h
  rename_i hL
  split at h
  · simp at h
  rename_i hC
  have hL' : lengthsB m = true := by simpa using hL
  simp only [lengthsB, headB, rootB, sgShort, Bool.and_eq_true, decide_eq_true_eq, List.all_eq_true] at hL'
  obtain ⟨⟨⟨⟨⟨⟨⟨⟨⟨⟨h1, h2⟩, h3⟩, h4⟩, h5, h6⟩, h7⟩, h8⟩, h9⟩, h10⟩, h11⟩, h12⟩ := hL'
  have a1 := sum_le_all St.sz 4200 m.statuses.l (fun x hx => st_short (h7 x hx))
  have a2 := sum_le_all De.sz 4100 m.entries.l (fun x hx => de_short (h8 x hx))
  have a3 := sum_le_all Ho.sz 4102 m.snapshot.chain.l (fun x hx => by have := de_short (h9 x hx); unfold Ho.sz; omega)
  have a4 := cert_short h12
  have a5 := szS_tot m.texts.l
  have a6 : m.snapshot.chunks.l = [] := by
    cases hc : m.snapshot.chunks.l with
    | nil => rfl
    | cons x r => rw [hc] at hC; simp at hC
  refine ⟨?_, a6⟩
  have a7 : sum szS m.snapshot.chunks.l = 0 := by rw [a6]; rfl
  unfold Ms.sz Sn.sz Sg.sz
  unfold Sg.sz at a4
  omega
/-- the bits -/
theorem spare_bits : ∀ b0 b1 b2 b3 b4 b5 b6 b7 b8 : Bool, presN [b0, b1, b2, b3, b4, b5, b6, b7, b8] < 512 := by decide +kernel
end Go.Proofs.YtoehakekjlebdaaGreatDoor
/- Reading messages: what is read, in plain words; what was put is read again. -/
namespace Go.Proofs.YtoehakekjlebdaaGreatDoor

/-! without addresses -/
def Sl.er {α : Type} (s : Sl α) : Sl α := ⟨none, 0, s.l⟩
def Sl.of {α : Type} (l : List α) : Sl α := ⟨none, 0, l⟩
def St.er (s : St) : St := { s with cert := s.cert.er }
def De.er (d : De) : De := { d with cert := d.cert.er }
def Ho.er (h : Ho) : Ho := { h with entry := h.entry.er }
def Sn.er (x : Sn) : Sn := { x with chunks := x.chunks.er, proof := x.proof.er, chain := Sl.of (x.chain.l.map Ho.er) }
def Ms.er (m : Ms) : Ms := { m with statuses := Sl.of (m.statuses.l.map St.er), entries := Sl.of (m.entries.l.map De.er), snapshot := m.snapshot.er, texts := m.texts.er }
theorem encSt_er (s : St) : encSt s.er = encSt s := rfl
theorem encDe_er (d : De) : encDe d.er = encDe d := rfl
theorem encHo_er (h : Ho) : encHo h.er = encHo h := rfl
theorem encSn_er (x : Sn) : encSn x.er = encSn x := by
  show putInts _ ++ putStr _ ++ putList _ ++ putList _ ++ putList ((x.chain.l.map Ho.er).map encHo) = _
  rw [List.map_map]; rfl
theorem encMs_er (m : Ms) : encMs m.er = encMs m := by
  show putInts _ ++ putStr _ ++ putStr _ ++ putList ((m.statuses.l.map St.er).map encSt) ++ putList ((m.entries.l.map De.er).map encDe) ++ putStr (encSn m.snapshot.er) ++ putList _ = _
  rw [List.map_map, List.map_map, encSn_er]; rfl
theorem vMs_er (m : Ms) : vMs m.er = vMs m := by
  have h1 : (m.er.statuses.l).length = m.statuses.l.length := by simp [Ms.er, Sl.of]
  have h2 : (m.er.entries.l).length = m.entries.l.length := by simp [Ms.er, Sl.of]
  have h3 : (m.er.snapshot.chain.l).length = m.snapshot.chain.l.length := by simp [Ms.er, Sn.er, Sl.of]
  have a1 : ∀ (f : St → Bool), (∀ s, f s.er = f s) → m.er.statuses.l.all f = m.statuses.l.all f := fun f hf => by
    simp only [Ms.er, Sl.of, List.all_map]; congr 1; funext s; exact hf s
  have a2 : ∀ (f : De → Bool), (∀ s, f s.er = f s) → m.er.entries.l.all f = m.entries.l.all f := fun f hf => by
    simp only [Ms.er, Sl.of, List.all_map]; congr 1; funext s; exact hf s
  have a3 : ∀ (f : Ho → Bool), (∀ s, f s.er = f s) → m.er.snapshot.chain.l.all f = m.snapshot.chain.l.all f := fun f hf => by
    simp only [Ms.er, Sn.er, Sl.of, List.all_map]; congr 1; funext s; exact hf s
  have r1 : rangesB m.er = rangesB m := by
    unfold rangesB
    rw [a1 _ (fun _ => rfl), a2 _ (fun _ => rfl), a3 _ (fun _ => rfl)]; rfl
  have r2 : lengthsB m.er = lengthsB m := by
    unfold lengthsB headB rootB
    rw [a1 _ (fun _ => rfl), a2 _ (fun _ => rfl), a3 _ (fun _ => rfl), h1, h2, h3]; rfl
  have r3 : spareB m.er = spareB m := by
    have : presL m.er = presL m := by
      unfold presL emptySn
      rw [h1, h2, h3]; rfl
    unfold spareB
    rw [this]; rfl
  have r4 : oneB m.er = oneB m := by unfold oneB; rw [h1]; rfl
  have r5 : partB m.er = partB m := rfl
  unfold vMs
  rw [r1, r2, r3, r4, r5]; rfl
theorem sz_er {α : Type} (f : α → Nat) (e : α → α) (h : ∀ x, f (e x) = f x) (l : List α) : sum f (l.map e) = sum f l := by
  induction l with
  | nil => rfl
  | cons x r ih => rw [List.map_cons, sum_cons, sum_cons, ih, h]
theorem Sn.sz_er (x : Sn) : x.er.sz = x.sz := by
  show _ + _ + _ + sum Ho.sz (x.chain.l.map Ho.er) + 6 = _
  rw [Go.Proofs.YtoehakekjlebdaaGreatDoor.sz_er Ho.sz Ho.er (fun _ => rfl)]; rfl
theorem Ms.sz_er (m : Ms) : m.er.sz = m.sz := by
  show _ + _ + sum St.sz (m.statuses.l.map St.er) + sum De.sz (m.entries.l.map De.er) + m.snapshot.er.sz + _ + 11 = _
  rw [Go.Proofs.YtoehakekjlebdaaGreatDoor.sz_er St.sz St.er (fun _ => rfl), Go.Proofs.YtoehakekjlebdaaGreatDoor.sz_er De.sz De.er (fun _ => rfl), Sn.sz_er]; rfl

/-! the readers: what is read, and what remains -/
@[reducible] def Pr (α : Type) : Type := List UInt8 → Option (α × List UInt8)
def Pr.then {α β : Type} (p : Pr α) (f : α → Pr β) : Pr β := fun s => match p s with
  | none => none
  | some (x, r) => f x r
def Pr.ret {α : Type} (x : α) : Pr α := fun s => some (x, s)
def off {α : Type} (g : List UInt8 → Option (α × Nat)) : Pr α := fun s => match g s with
  | none => none
  | some (x, k) => some (x, s.drop k)
def rdInts (n : Nat) : Pr (List Int) := fun s => match off getInts s with
  | none => none
  | some (l, r) => if l.length = n then some (l, r) else none
def rdText : Pr (List UInt8) := off getStr
def rdTexts : Pr (List (List UInt8)) := off getList
def whole {α : Type} (p : Pr α) (s : List UInt8) : Option α := match p s with
  | none => none
  | some (x, r) => if r = [] then some x else none
def many {α : Type} (p : Pr α) : List (List UInt8) → Option (List α)
  | [] => some []
  | s :: r => match whole p s with
    | none => none
    | some x => match many p r with
      | none => none
      | some l => some (x :: l)
def rdParts {α : Type} (p : Pr α) : Pr (List α) := fun s => match rdTexts s with
  | none => none
  | some (l, r) => match many p l with
    | none => none
    | some xs => some (xs, r)
def rdPart {α : Type} (p : Pr α) : Pr α := fun s => match rdText s with
  | none => none
  | some (t, r) => match whole p t with
    | none => none
    | some x => some (x, r)
def rdSg : Pr Sg := fun s => match rdInts 4 s with
  | none => none
  | some (l, r) => match rdText r with
    | none => none
    | some (d, r) => match rdText r with
      | none => none
      | some (g, r) => if r = [] then some (⟨l.getD 0 0, l.getD 1 0, l.getD 2 0, l.getD 3 0, d, g⟩, []) else none
def rdSt : Pr St := (rdInts 4).then fun n => rdText.then fun a => (rdParts rdSg).then fun c => (rdPart rdSg).then fun g => Pr.ret ⟨n.getD 0 0, n.getD 1 0, n.getD 2 0, n.getD 3 0, a, Sl.of c, g⟩
def rdDe : Pr De := (rdInts 1).then fun n => rdText.then fun a => (rdParts rdSg).then fun c => Pr.ret ⟨n.getD 0 0, a, Sl.of c⟩
def rdHo : Pr Ho := (rdInts 1).then fun n => rdDe.then fun e => Pr.ret ⟨n.getD 0 0, e⟩
def rdSn : Pr Sn := (rdInts 1).then fun n => rdText.then fun a => rdTexts.then fun ch => (rdParts rdSg).then fun p => (rdParts rdHo).then fun c => Pr.ret ⟨n.getD 0 0, a, Sl.of ch, Sl.of p, Sl.of c⟩
def rdMs : Pr Ms := (rdInts 6).then fun n => rdText.then fun a => (rdPart rdSg).then fun g => (rdParts rdSt).then fun ss => (rdParts rdDe).then fun es => (rdPart rdSn).then fun x => rdTexts.then fun t =>
  Pr.ret ⟨n.getD 0 0, n.getD 1 0, n.getD 2 0, n.getD 3 0, n.getD 4 0, a, n.getD 5 0, g, Sl.of ss, Sl.of es, x, Sl.of t⟩
def decMs (s : List UInt8) : Option Ms := match whole rdMs s with
  | none => none
  | some m => if vMs m = 0 then some m else none
def decSt (s : List UInt8) : Option St := match whole rdSt s with
  | none => none
  | some x => if vSt x = 0 then some x else none

/-! what was put is read again -/
theorem rdInts_put (n : Nat) (l : List Int) (r : List UInt8) (hn : l.length = n) (hl : l.length < 18446744073709551616) (hx : ∀ x ∈ l, I64 x) : rdInts n (putInts l ++ r) = some (l, r) := by
  unfold rdInts off
  rw [getInts_put l r hl hx]
  simp [hn]
theorem rdText_put (x r : List UInt8) (h : x.length < 18446744073709551616) : rdText (putStr x ++ r) = some (x, r) := by
  unfold rdText off
  rw [getStr_put x r h]
  simp
theorem rdTexts_put (l : List (List UInt8)) (r : List UInt8) (hl : l.length < 18446744073709551616) (hx : ∀ x ∈ l, x.length < 18446744073709551616) : rdTexts (putList l ++ r) = some (l, r) := by
  unfold rdTexts off
  rw [getList_put l r hl hx]
  simp
theorem many_put {α β : Type} (p : Pr β) (enc : α → List UInt8) (e : α → β) (l : List α) (h : ∀ x ∈ l, whole p (enc x) = some (e x)) : many p (l.map enc) = some (l.map e) := by
  induction l with
  | nil => rfl
  | cons x r ih =>
    rw [List.map_cons, many]
    simp only [h x (by simp), ih (fun y hy => h y (by simp [hy])), List.map_cons]
theorem rdParts_put {α β : Type} (p : Pr β) (enc : α → List UInt8) (e : α → β) (l : List α) (r : List UInt8) (hl : l.length < 18446744073709551616) (hs : ∀ x ∈ l, (enc x).length < 18446744073709551616) (h : ∀ x ∈ l, whole p (enc x) = some (e x)) :
    rdParts p (putList (l.map enc) ++ r) = some (l.map e, r) := by
  unfold rdParts
  simp only [rdTexts_put (l.map enc) r (by simpa using hl) (by simpa using hs), many_put p enc e l h]
theorem rdPart_put {α : Type} (p : Pr α) (x : List UInt8) (y : α) (r : List UInt8) (hs : x.length < 18446744073709551616) (h : whole p x = some y) : rdPart p (putStr x ++ r) = some (y, r) := by
  unfold rdPart
  simp only [rdText_put x r hs, h]
theorem rdSg_put (x : Sg) (h : x.ok) (hs : x.sz ≤ 16777216) : rdSg (encSg x) = some (x, []) := by
  have h1 := rdInts_put 4 [x.server, x.kind, x.view, x.slot] (putStr x.digest ++ putStr x.sig) rfl (by simp) (by simpa [List.forall_mem_cons, Sg.ok] using h)
  unfold Sg.sz at hs
  have h2 := rdText_put x.digest (putStr x.sig) (by omega)
  have h3 := rdText_put x.sig [] (by omega)
  rw [List.append_nil] at h3
  unfold rdSg encSg contSg
  rw [List.append_assoc]
  simp only [h1, h2, h3]
  rfl
theorem whole_of {α : Type} {p : Pr α} {s : List UInt8} {x : α} (h : p s = some (x, [])) : whole p s = some x := by
  unfold whole; rw [h]; rfl
theorem then_put {α β : Type} {p : Pr α} {f : α → Pr β} {a r : List UInt8} {x : α} (h : p (a ++ r) = some (x, r)) : (p.then f) (a ++ r) = f x r := by
  unfold Pr.then; rw [h]
theorem then_end {α β : Type} {p : Pr α} {f : α → Pr β} {a : List UInt8} {x : α} (h : p a = some (x, [])) : (p.then f) a = f x [] := by
  unfold Pr.then; rw [h]
theorem parts_sg (l : List Sg) (r : List UInt8) (h : ∀ x ∈ l, x.ok) (hs : sum Sg.sz l ≤ 16777216) : rdParts rdSg (putList (l.map encSg) ++ r) = some (l, r) := by
  have h0 := sum_ge Sg.sz l 7 Sg.sz_ge
  have := rdParts_put rdSg encSg id l r (by omega) (fun x hx => by have h1 := sum_get Sg.sz l x hx; have := encSg_len x (h x hx) (by omega); omega)
    (fun x hx => whole_of (rdSg_put x (h x hx) (by have := sum_get Sg.sz l x hx; omega)))
  simpa using this
theorem part_sg (x : Sg) (r : List UInt8) (h : x.ok) (hs : x.sz ≤ 16777216) : rdPart rdSg (putStr (encSg x) ++ r) = some (x, r) :=
  rdPart_put rdSg (encSg x) x r (by have := encSg_len x h hs; omega) (whole_of (rdSg_put x h hs))
theorem rdSt_put (s : St) (w : World) (h : s.ok w) (hs : s.sz ≤ 16777216) : rdSt (encSt s) = some (s.er, []) := by
  have hz := hs
  unfold St.sz at hz
  unfold rdSt encSt
  rw [List.append_assoc, List.append_assoc, then_put (rdInts_put 4 [s.server, s.view, s.length, s.lockView] _ rfl (by simp) (by simpa [List.forall_mem_cons] using h.1)),
    then_put (rdText_put s.lock _ (by omega)), then_put (parts_sg s.cert.l _ h.2.2.1 (by omega)), then_end (x := s.signed) (by have := part_sg s.signed [] h.2.2.2 (by omega); rwa [List.append_nil] at this)]
  rfl
theorem rdDe_put (d : De) (w : World) (h : d.ok w) (hs : d.sz ≤ 16777216) (r : List UInt8) : rdDe (encDe d ++ r) = some (d.er, r) := by
  have hz := hs
  unfold De.sz at hz
  unfold rdDe encDe
  rw [List.append_assoc, List.append_assoc, then_put (rdInts_put 1 [d.view] _ rfl (by simp) (by simpa [List.forall_mem_cons] using h.1)),
    then_put (rdText_put d.value _ (by omega)), then_put (parts_sg d.cert.l _ h.2.2 (by omega))]
  rfl
theorem rdHo_put (x : Ho) (w : World) (h : x.ok w) (hs : x.sz ≤ 16777216) : rdHo (encHo x) = some (x.er, []) := by
  have hz := hs
  unfold Ho.sz at hz
  unfold rdHo encHo
  rw [then_put (rdInts_put 1 [x.slot] _ rfl (by simp) (by simpa [List.forall_mem_cons] using h.1)), then_end (x := x.entry.er) (by have := rdDe_put x.entry w h.2 (by omega) []; rwa [List.append_nil] at this)]
  rfl
theorem rdSn_put (x : Sn) (w : World) (h : x.ok w) (hs : x.sz ≤ 16777216) : rdSn (encSn x) = some (x.er, []) := by
  have hz := hs
  unfold Sn.sz at hz
  have h0 := sum_ge Ho.sz x.chain.l 6 Ho.sz_ge
  have h1 := strL_len x.chunks.l (by omega)
  have hc : ∀ y ∈ x.chain.l, y.sz ≤ 16777216 := fun y hy => by have := sum_get Ho.sz _ y hy; omega
  unfold rdSn encSn
  rw [List.append_assoc, List.append_assoc, List.append_assoc, then_put (rdInts_put 1 [x.slot] _ rfl (by simp) (by simpa [List.forall_mem_cons] using h.1)),
    then_put (rdText_put x.root _ (by omega)), then_put (rdTexts_put x.chunks.l _ (by omega) (fun y hy => by have := sum_get szS _ y hy; unfold szS at this hz; omega)), then_put (parts_sg x.proof.l _ h.2.2.1.2 (by omega)),
    then_end (x := x.chain.l.map Ho.er) (by
      have := rdParts_put rdHo encHo Ho.er x.chain.l [] (by omega) (fun y hy => by have := encHo_len y w (h.2.2.2.2 y hy) (hc y hy); have := hc y hy; omega) (fun y hy => whole_of (rdHo_put y w (h.2.2.2.2 y hy) (hc y hy)))
      rwa [List.append_nil] at this)]
  rfl
theorem rdMs_put (m : Ms) (w : World) (h : m.ok w) (hs : m.sz ≤ 16777216) : rdMs (encMs m) = some (m.er, []) := by
  have hz := hs
  unfold Ms.sz at hz
  have h0 := sum_ge St.sz m.statuses.l 14 St.sz_ge
  have h1 := sum_ge De.sz m.entries.l 4 De.sz_ge
  have h2 := strL_len m.texts.l (by omega)
  have hc : ∀ y ∈ m.statuses.l, y.sz ≤ 16777216 := fun y hy => by have := sum_get St.sz _ y hy; omega
  have hd : ∀ y ∈ m.entries.l, y.sz ≤ 16777216 := fun y hy => by have := sum_get De.sz _ y hy; omega
  have hn := encSn_len m.snapshot w h.2.2.2.2.1 (by omega)
  unfold rdMs encMs
  simp only [List.append_assoc]
  rw [then_put (rdInts_put 6 [m.kind, m.src, m.dst, m.view, m.slot, m.till] _ rfl (by simp) (by simpa [List.forall_mem_cons] using h.1)), then_put (rdText_put m.value _ (by omega)),
    then_put (part_sg m.signed _ h.2.1 (by omega)),
    then_put (rdParts_put rdSt encSt St.er m.statuses.l _ (by omega) (fun y hy => by have := encSt_len y w (h.2.2.1.2 y hy) (hc y hy); have := hc y hy; omega) (fun y hy => whole_of (rdSt_put y w (h.2.2.1.2 y hy) (hc y hy)))),
    then_put (rdParts_put rdDe encDe De.er m.entries.l _ (by omega) (fun y hy => by have := encDe_len y w (h.2.2.2.1.2 y hy) (hd y hy); have := hd y hy; omega) (fun y hy => whole_of (by have := rdDe_put y w (h.2.2.2.1.2 y hy) (hd y hy) []; rwa [List.append_nil] at this))),
    then_put (rdPart_put rdSn (encSn m.snapshot) m.snapshot.er _ (by omega) (whole_of (rdSn_put m.snapshot w h.2.2.2.2.1 (by omega)))),
    then_end (x := m.texts.l) (by have := rdTexts_put m.texts.l [] (by omega) (fun y hy => by have := sum_get szS _ y hy; unfold szS at this hz; omega); rwa [List.append_nil] at this)]
  rfl
theorem decMs_put (m : Ms) (w : World) (h : m.ok w) (hv : vMs m = 0) : decMs (encMs m) = some m.er := by
  unfold decMs
  rw [whole_of (rdMs_put m w h (by have := (ms_short hv).1; omega))]
  simp only [vMs_er, hv, if_pos]
theorem decSt_put (s : St) (w : World) (h : s.ok w) (hv : vSt s = 0) : decSt (encSt s) = some s.er := by
  have hs : stShort s = true := by
    unfold vSt at hv
    split at hv
    · simp at hv
    · split at hv
      · simp at hv
      · rename_i h2; simpa using h2
  unfold decSt
  rw [whole_of (rdSt_put s w h (by have := st_short hs; omega))]
  have : vSt s.er = 0 := hv
  simp only [this, if_pos]
/-- equal encodings, equal messages (without addresses) -/
theorem encMs_inj {a b : Ms} {w : World} (ha : a.ok w) (hb : b.ok w) (sa : a.sz ≤ 16777216) (sb : b.sz ≤ 16777216) (h : encMs a = encMs b) : a.er = b.er := by
  have h1 := rdMs_put a w ha sa
  have h2 := rdMs_put b w hb sb
  rw [h, h2] at h1
  simpa using h1.symm
/-! the sizes of what is read -/
theorem getMany_sum {α : Type} (g : List UInt8 → Option (α × Nat)) (f : α → Nat) (hg : ∀ s x k, g s = some (x, k) → f x ≤ k ∧ k ≤ s.length) : ∀ (n : Nat) (s : List UInt8) (xs : List α) (m : Nat), getMany g n s = some (xs, m) → xs.length = n ∧ sum f xs ≤ m ∧ m ≤ s.length
  | 0, s, xs, m, h => by
    simp only [getMany, Option.some.injEq, Prod.mk.injEq] at h
    obtain ⟨rfl, rfl⟩ := h
    simp [sum]
  | n + 1, s, xs, m, h => by
    rw [getMany] at h
    cases hx : g s with
    | none => rw [hx] at h; simp at h
    | some y =>
      obtain ⟨x, k⟩ := y
      rw [hx] at h
      simp only at h
      cases hy : getMany g n (s.drop k) with
      | none => rw [hy] at h; simp at h
      | some z =>
        obtain ⟨ys, j⟩ := z
        rw [hy] at h
        simp only [Option.some.injEq, Prod.mk.injEq] at h
        obtain ⟨rfl, rfl⟩ := h
        have h1 := hg s x k hx
        have h2 := getMany_sum g f hg n _ ys j hy
        rw [List.length_drop] at h2
        rw [sum_cons, List.length_cons]
        omega
theorem getAll_sum {α : Type} (g : List UInt8 → Option (α × Nat)) (f : α → Nat) (hg : ∀ s x k, g s = some (x, k) → f x ≤ k ∧ k ≤ s.length) {s : List UInt8} {xs : List α} {k : Nat} (h : getAll g s = some (xs, k)) : sum f xs + 1 ≤ k ∧ k ≤ s.length := by
  unfold getAll at h
  cases hv : getV s with
  | none => rw [hv] at h; simp at h
  | some y =>
    obtain ⟨n, j⟩ := y
    rw [hv] at h
    simp only at h
    cases hy : getMany g n (s.drop j) with
    | none => rw [hy] at h; simp at h
    | some z =>
      obtain ⟨ys, i⟩ := z
      rw [hy] at h
      simp only [Option.some.injEq, Prod.mk.injEq] at h
      obtain ⟨rfl, rfl⟩ := h
      have h1 := getV_le hv
      have h2 := getMany_sum g f hg n _ ys i hy
      rw [List.length_drop] at h2
      omega
theorem getInt_le (s : List UInt8) (x : Int) (k : Nat) (h : getInt s = some (x, k)) : 1 ≤ k ∧ k ≤ s.length := by
  unfold getInt at h
  cases hv : getV s with
  | none => rw [hv] at h; simp at h
  | some y =>
    rw [hv] at h
    simp only [Option.map_some, Option.some.injEq, Prod.mk.injEq] at h
    have := getV_le (n := y.1) (k := y.2) (by rw [hv])
    omega
theorem sum_one {α : Type} (l : List α) : sum (fun _ => 1) l = l.length := by
  induction l with
  | nil => rfl
  | cons x r ih => rw [sum_cons, ih, List.length_cons]; omega
theorem rdInts_sz {n : Nat} {s r : List UInt8} {l : List Int} (h : rdInts n s = some (l, r)) : l.length = n ∧ n + 1 + r.length ≤ s.length := by
  unfold rdInts off at h
  cases hg : getInts s with
  | none => rw [hg] at h; simp at h
  | some y =>
    obtain ⟨xs, k⟩ := y
    rw [hg] at h
    simp only at h
    split at h
    · rename_i hl
      simp only [Option.some.injEq, Prod.mk.injEq] at h
      obtain ⟨rfl, rfl⟩ := h
      have := getAll_sum getInt (fun _ => 1) (fun s x k h => getInt_le s x k h) hg
      rw [sum_one] at this
      rw [List.length_drop]
      omega
    · simp at h
theorem rdText_sz {s r x : List UInt8} (h : rdText s = some (x, r)) : x.length + 1 + r.length ≤ s.length := by
  unfold rdText off at h
  cases hg : getStr s with
  | none => rw [hg] at h; simp at h
  | some y =>
    obtain ⟨xs, k⟩ := y
    rw [hg] at h
    simp only [Option.some.injEq, Prod.mk.injEq] at h
    obtain ⟨rfl, rfl⟩ := h
    have := getStr_le hg
    rw [List.length_drop]
    omega
theorem rdTexts_sz {s r : List UInt8} {l : List (List UInt8)} (h : rdTexts s = some (l, r)) : sum szS l + 1 + r.length ≤ s.length := by
  unfold rdTexts off at h
  cases hg : getList s with
  | none => rw [hg] at h; simp at h
  | some y =>
    obtain ⟨xs, k⟩ := y
    rw [hg] at h
    simp only [Option.some.injEq, Prod.mk.injEq] at h
    obtain ⟨rfl, rfl⟩ := h
    have := getAll_sum getStr szS (fun s x k h => by have := getStr_le h; unfold szS; omega) hg
    rw [List.length_drop]
    omega
def Fits {α : Type} (p : Pr α) (f : α → Nat) : Prop := ∀ s x r, p s = some (x, r) → f x + r.length ≤ s.length
theorem whole_sz {α : Type} {p : Pr α} {f : α → Nat} (hp : Fits p f) {s : List UInt8} {x : α} (h : whole p s = some x) : f x ≤ s.length := by
  unfold whole at h
  cases hg : p s with
  | none => rw [hg] at h; simp at h
  | some y =>
    obtain ⟨z, r⟩ := y
    rw [hg] at h
    simp only at h
    split at h
    · simp only [Option.some.injEq] at h
      subst h
      have := hp s z r hg
      omega
    · simp at h
theorem many_sz {α : Type} {p : Pr α} {f : α → Nat} (hp : Fits p f) : ∀ {ls : List (List UInt8)} {xs : List α}, many p ls = some xs → xs.length = ls.length ∧ sum f xs + ls.length ≤ sum szS ls
  | [], xs, h => by simp only [many, Option.some.injEq] at h; subst h; simp [sum]
  | s :: r, xs, h => by
    rw [many] at h
    cases hx : whole p s with
    | none => rw [hx] at h; simp at h
    | some x =>
      rw [hx] at h
      simp only at h
      cases hy : many p r with
      | none => rw [hy] at h; simp at h
      | some l =>
        rw [hy] at h
        simp only [Option.some.injEq] at h
        subst h
        have h1 := whole_sz hp hx
        have h2 := many_sz hp hy
        simp only [sum_cons, List.length_cons]
        unfold szS at h2 ⊢
        omega
theorem rdParts_sz {α : Type} {p : Pr α} {f : α → Nat} (hp : Fits p f) {s r : List UInt8} {xs : List α} (h : rdParts p s = some (xs, r)) : sum f xs + xs.length + 1 + r.length ≤ s.length := by
  unfold rdParts at h
  cases hg : rdTexts s with
  | none => rw [hg] at h; simp at h
  | some y =>
    obtain ⟨ls, q⟩ := y
    rw [hg] at h
    simp only at h
    cases hm : many p ls with
    | none => rw [hm] at h; simp at h
    | some zs =>
      rw [hm] at h
      simp only [Option.some.injEq, Prod.mk.injEq] at h
      obtain ⟨rfl, rfl⟩ := h
      have h1 := rdTexts_sz hg
      have h2 := many_sz hp hm
      omega
theorem rdPart_sz {α : Type} {p : Pr α} {f : α → Nat} (hp : Fits p f) {s r : List UInt8} {x : α} (h : rdPart p s = some (x, r)) : f x + 1 + r.length ≤ s.length := by
  unfold rdPart at h
  cases hg : rdText s with
  | none => rw [hg] at h; simp at h
  | some y =>
    obtain ⟨t, q⟩ := y
    rw [hg] at h
    simp only at h
    cases hm : whole p t with
    | none => rw [hm] at h; simp at h
    | some z =>
      rw [hm] at h
      simp only [Option.some.injEq, Prod.mk.injEq] at h
      obtain ⟨rfl, rfl⟩ := h
      have h1 := rdText_sz hg
      have h2 := whole_sz hp hm
      omega
theorem then_sz {α β : Type} {p : Pr α} {f : α → Pr β} {s r : List UInt8} {y : β} (h : (p.then f) s = some (y, r)) : ∃ x q, p s = some (x, q) ∧ f x q = some (y, r) := by
  unfold Pr.then at h
  cases hg : p s with
  | none => rw [hg] at h; simp at h
  | some z => rw [hg] at h; exact ⟨z.1, z.2, rfl, h⟩
theorem ret_sz {α : Type} {x y : α} {s r : List UInt8} (h : Pr.ret x s = some (y, r)) : x = y ∧ s = r := by
  simpa [Pr.ret] using h
theorem rdSg_sz : Fits rdSg Sg.sz := by
  intro s x r h
  unfold rdSg at h
  cases h1 : rdInts 4 s with
  | none => rw [h1] at h; simp at h
  | some y =>
    obtain ⟨l, q⟩ := y
    rw [h1] at h; simp only at h
    cases h2 : rdText q with
    | none => rw [h2] at h; simp at h
    | some y =>
      obtain ⟨d, q2⟩ := y
      rw [h2] at h; simp only at h
      cases h3 : rdText q2 with
      | none => rw [h3] at h; simp at h
      | some y =>
        obtain ⟨g, q3⟩ := y
        rw [h3] at h; simp only at h
        split at h
        · simp only [Option.some.injEq, Prod.mk.injEq] at h
          obtain ⟨rfl, rfl⟩ := h
          have a1 := (rdInts_sz h1).2
          have a2 := rdText_sz h2
          have a3 := rdText_sz h3
          unfold Sg.sz
          simp only [List.length_nil]
          omega
        · simp at h
theorem rdSt_sz : Fits rdSt St.sz := by
  intro s x r h
  obtain ⟨n, q1, h1, h⟩ := then_sz h
  obtain ⟨a, q2, h2, h⟩ := then_sz h
  obtain ⟨c, q3, h3, h⟩ := then_sz h
  obtain ⟨g, q4, h4, h⟩ := then_sz h
  obtain ⟨rfl, rfl⟩ := ret_sz h
  have a1 := (rdInts_sz h1).2
  have a2 := rdText_sz h2
  have a3 := rdParts_sz rdSg_sz h3
  have a4 := rdPart_sz rdSg_sz h4
  unfold St.sz Sl.of
  simp only
  omega
theorem rdDe_sz : Fits rdDe De.sz := by
  intro s x r h
  obtain ⟨n, q1, h1, h⟩ := then_sz h
  obtain ⟨a, q2, h2, h⟩ := then_sz h
  obtain ⟨c, q3, h3, h⟩ := then_sz h
  obtain ⟨rfl, rfl⟩ := ret_sz h
  have a1 := (rdInts_sz h1).2
  have a2 := rdText_sz h2
  have a3 := rdParts_sz rdSg_sz h3
  unfold De.sz Sl.of
  simp only
  omega
theorem rdHo_sz : Fits rdHo Ho.sz := by
  intro s x r h
  obtain ⟨n, q1, h1, h⟩ := then_sz h
  obtain ⟨a, q2, h2, h⟩ := then_sz h
  obtain ⟨rfl, rfl⟩ := ret_sz h
  have a1 := (rdInts_sz h1).2
  have a2 := rdDe_sz _ _ _ h2
  unfold Ho.sz
  simp only
  omega
theorem rdSn_sz : Fits rdSn Sn.sz := by
  intro s x r h
  obtain ⟨n, q1, h1, h⟩ := then_sz h
  obtain ⟨a, q2, h2, h⟩ := then_sz h
  obtain ⟨b, q3, h3, h⟩ := then_sz h
  obtain ⟨c, q4, h4, h⟩ := then_sz h
  obtain ⟨d, q5, h5, h⟩ := then_sz h
  obtain ⟨rfl, rfl⟩ := ret_sz h
  have a1 := (rdInts_sz h1).2
  have a2 := rdText_sz h2
  have a3 := rdTexts_sz h3
  have a4 := rdParts_sz rdSg_sz h4
  have a5 := rdParts_sz rdHo_sz h5
  unfold Sn.sz Sl.of
  simp only
  omega
theorem rdMs_sz : Fits rdMs Ms.sz := by
  intro s x r h
  obtain ⟨n, q1, h1, h⟩ := then_sz h
  obtain ⟨a, q2, h2, h⟩ := then_sz h
  obtain ⟨b, q3, h3, h⟩ := then_sz h
  obtain ⟨c, q4, h4, h⟩ := then_sz h
  obtain ⟨d, q5, h5, h⟩ := then_sz h
  obtain ⟨e, q6, h6, h⟩ := then_sz h
  obtain ⟨f, q7, h7, h⟩ := then_sz h
  obtain ⟨rfl, rfl⟩ := ret_sz h
  have a1 := (rdInts_sz h1).2
  have a2 := rdText_sz h2
  have a3 := rdPart_sz rdSg_sz h3
  have a4 := rdParts_sz rdSt_sz h4
  have a5 := rdParts_sz rdDe_sz h5
  have a6 := rdPart_sz rdSn_sz h6
  have a7 := rdTexts_sz h7
  unfold Ms.sz Sl.of
  simp only
  omega
end Go.Proofs.YtoehakekjlebdaaGreatDoor
/- A source of codes, in plain words: the rest and whether something was bad; what each reader gives and leaves. -/
namespace Go.Proofs.YtoehakekjlebdaaGreatDoor

/-- the state of a source -/
structure Sc where
  rest : List UInt8
  bad : Bool
/-- one code is read -/
def tkR {α : Type} (g : List UInt8 → Option (α × Nat)) (none : α) (s : Sc) : α × Sc :=
  if s.bad then (none, ⟨s.rest, true⟩) else match g s.rest with
  | Option.none => (none, ⟨s.rest, true⟩)
  | some (x, k) => (x, ⟨s.rest.drop k, false⟩)
def tkInts (n : Nat) (s : Sc) : List Int × Sc :=
  if (tkR getInts [] s).1.length = n then tkR getInts [] s else (List.replicate n 0, ⟨(tkR getInts [] s).2.rest, true⟩)
def tkText (s : Sc) : List UInt8 × Sc := tkR getStr [] s
def tkTexts (s : Sc) : List (List UInt8) × Sc := tkR getList [] s
/-- a text is read as a whole: what was bad in it, or left over, is bad -/
def tkPart {α : Type} (rd : Sc → α × Sc) (t : List UInt8) (s : Sc) : α × Sc :=
  ((rd ⟨t, false⟩).1, ⟨s.rest, s.bad || (rd ⟨t, false⟩).2.bad || !(rd ⟨t, false⟩).2.rest.isEmpty⟩)
def tkAll {α : Type} (rd : Sc → α × Sc) : List (List UInt8) → Sc → List α × Sc
  | [], s => ([], s)
  | t :: l, s => ((tkPart rd t s).1 :: (tkAll rd l (tkPart rd t s).2).1, (tkAll rd l (tkPart rd t s).2).2)
def tkParts {α : Type} (rd : Sc → α × Sc) (s : Sc) : List α × Sc := tkAll rd (tkTexts s).1 (tkTexts s).2
def tkThen {α β : Type} (a : Sc → α × Sc) (f : α → Sc → β × Sc) (s : Sc) : β × Sc := f (a s).1 (a s).2
def tkRet {α : Type} (x : α) (s : Sc) : α × Sc := (x, s)
def tkOne {α : Type} (rd : Sc → α × Sc) : Sc → α × Sc := tkThen tkText fun t => tkPart rd t
def sg0 : Sg := ⟨0, 0, 0, 0, [], []⟩
def tkSg (s : Sc) : Sg × Sc := match whole rdSg s.rest with
  | none => (sg0, ⟨[], true⟩)
  | some x => (x, ⟨[], s.bad⟩)
def tkSt : Sc → St × Sc := tkThen (tkInts 4) fun n => tkThen tkText fun a => tkThen (tkParts tkSg) fun c => tkThen (tkOne tkSg) fun g => tkRet ⟨n.getD 0 0, n.getD 1 0, n.getD 2 0, n.getD 3 0, a, Sl.of c, g⟩
def tkDe : Sc → De × Sc := tkThen (tkInts 1) fun n => tkThen tkText fun a => tkThen (tkParts tkSg) fun c => tkRet ⟨n.getD 0 0, a, Sl.of c⟩
def tkHo : Sc → Ho × Sc := tkThen (tkInts 1) fun n => tkThen tkDe fun e => tkRet ⟨n.getD 0 0, e⟩
def tkSn : Sc → Sn × Sc := tkThen (tkInts 1) fun n => tkThen tkText fun a => tkThen tkTexts fun ch => tkThen (tkParts tkSg) fun p => tkThen (tkParts tkHo) fun c => tkRet ⟨n.getD 0 0, a, Sl.of ch, Sl.of p, Sl.of c⟩
def tkMs : Sc → Ms × Sc := tkThen (tkInts 6) fun n => tkThen tkText fun a => tkThen (tkOne tkSg) fun g => tkThen (tkParts tkSt) fun ss => tkThen (tkParts tkDe) fun es => tkThen (tkOne tkSn) fun x => tkThen tkTexts fun t =>
  tkRet ⟨n.getD 0 0, n.getD 1 0, n.getD 2 0, n.getD 3 0, n.getD 4 0, a, n.getD 5 0, g, Sl.of ss, Sl.of es, x, Sl.of t⟩

/-- a reader of a source does what a reader of a text does -/
structure Ag {α : Type} (p : Pr α) (tk : Sc → α × Sc) : Prop where
  bad : ∀ s : Sc, s.bad = true → (tk s).2.bad = true
  len : ∀ s : Sc, (tk s).2.rest.length ≤ s.rest.length
  none : ∀ s : Sc, s.bad = false → p s.rest = none → (tk s).2.bad = true
  some : ∀ (s : Sc) (x : α) (r : List UInt8), s.bad = false → p s.rest = some (x, r) → tk s = (x, ⟨r, false⟩)
theorem ag_ret {α : Type} (x : α) : Ag (Pr.ret x) (tkRet x) where
  bad _ h := h
  len _ := Nat.le_refl _
  none _ _ h := by simp [Pr.ret] at h
  some s y r hb h := by
    simp only [Pr.ret, Option.some.injEq, Prod.mk.injEq] at h
    obtain ⟨rfl, rfl⟩ := h
    obtain ⟨r, b⟩ := s
    simp only at hb
    subst hb
    rfl
theorem ag_then {α β : Type} {p : Pr α} {a : Sc → α × Sc} {q : α → Pr β} {f : α → Sc → β × Sc} (h : Ag p a) (k : ∀ x, Ag (q x) (f x)) : Ag (p.then q) (tkThen a f) where
  bad s hs := (k _).bad _ (h.bad s hs)
  len s := Nat.le_trans ((k _).len _) (h.len s)
  none s hb hn := by
    unfold Pr.then at hn
    cases hp : p s.rest with
    | none => exact (k _).bad _ (h.none s hb hp)
    | some y =>
      obtain ⟨x, r⟩ := y
      rw [hp] at hn
      simp only at hn
      unfold tkThen
      rw [h.some s x r hb hp]
      exact (k x).none ⟨r, false⟩ rfl hn
  some s y r hb hn := by
    unfold Pr.then at hn
    cases hp : p s.rest with
    | none => rw [hp] at hn; simp at hn
    | some z =>
      obtain ⟨x, q'⟩ := z
      rw [hp] at hn
      simp only at hn
      unfold tkThen
      rw [h.some s x q' hb hp]
      exact (k x).some ⟨q', false⟩ y r rfl hn
theorem ag_off {α : Type} (g : List UInt8 → Option (α × Nat)) (d : α) : Ag (off g) (tkR g d) where
  bad s h := by unfold tkR; rw [if_pos h]
  len s := by
    unfold tkR
    split
    · exact Nat.le_refl _
    · split
      · exact Nat.le_refl _
      · simp
  none s hb h := by
    unfold off at h
    unfold tkR
    rw [if_neg (by simp [hb])]
    cases hg : g s.rest with
    | none => rfl
    | some y => rw [hg] at h; simp at h
  some s x r hb h := by
    unfold off at h
    unfold tkR
    rw [if_neg (by simp [hb])]
    cases hg : g s.rest with
    | none => rw [hg] at h; simp at h
    | some y =>
      rw [hg] at h
      simp only [Option.some.injEq, Prod.mk.injEq] at h
      obtain ⟨rfl, rfl⟩ := h
      rfl
theorem ag_ints (n : Nat) : Ag (rdInts n) (tkInts n) where
  bad s h := by
    have := (ag_off getInts []).bad s h
    unfold tkInts
    split
    · exact this
    · rfl
  len s := by
    have := (ag_off getInts []).len s
    unfold tkInts
    split <;> exact this
  none s hb h := by
    unfold rdInts at h
    unfold tkInts
    cases hg : off getInts s.rest with
    | none =>
      have := (ag_off getInts []).none s hb hg
      split
      · exact this
      · rfl
    | some y =>
      obtain ⟨x, r⟩ := y
      rw [hg] at h
      simp only at h
      have := (ag_off getInts []).some s x r hb hg
      rw [this]
      split at h
      · simp at h
      · rename_i hl; rw [if_neg hl]
  some s x r hb h := by
    unfold rdInts at h
    unfold tkInts
    cases hg : off getInts s.rest with
    | none => rw [hg] at h; simp at h
    | some y =>
      obtain ⟨x', r'⟩ := y
      rw [hg] at h
      simp only at h
      have := (ag_off getInts []).some s x' r' hb hg
      rw [this]
      split at h
      · rename_i hl
        simp only [Option.some.injEq, Prod.mk.injEq] at h
        obtain ⟨rfl, rfl⟩ := h
        rw [if_pos hl]
      · simp at h
theorem ag_text : Ag rdText tkText := ag_off getStr []
theorem ag_texts : Ag rdTexts tkTexts := ag_off getList []
theorem part_none {α : Type} {p : Pr α} {tk : Sc → α × Sc} (h : Ag p tk) (t : List UInt8) (s : Sc) (hn : whole p t = none) : (tkPart tk t s).2.bad = true := by
  unfold whole at hn
  unfold tkPart
  cases hp : p t with
  | none =>
    have := h.none ⟨t, false⟩ rfl hp
    simp [this]
  | some y =>
    obtain ⟨x, r⟩ := y
    rw [hp] at hn
    simp only at hn
    rw [h.some ⟨t, false⟩ x r rfl hp]
    split at hn
    · simp at hn
    · rename_i hr
      cases r with
      | nil => simp at hr
      | cons a b => simp
theorem part_some {α : Type} {p : Pr α} {tk : Sc → α × Sc} (h : Ag p tk) (t : List UInt8) (s : Sc) (x : α) (hs : whole p t = some x) : tkPart tk t s = (x, s) := by
  unfold whole at hs
  unfold tkPart
  cases hp : p t with
  | none => rw [hp] at hs; simp at hs
  | some y =>
    obtain ⟨x', r⟩ := y
    rw [hp] at hs
    simp only at hs
    rw [h.some ⟨t, false⟩ x' r rfl hp]
    split at hs
    · rename_i hr
      subst hr
      simp only [Option.some.injEq] at hs
      subst hs
      simp
    · simp at hs
theorem part_bad {α : Type} (tk : Sc → α × Sc) (t : List UInt8) (s : Sc) (h : s.bad = true) : (tkPart tk t s).2.bad = true := by
  unfold tkPart
  simp [h]
theorem all_bad {α : Type} (tk : Sc → α × Sc) : ∀ (l : List (List UInt8)) (s : Sc), s.bad = true → (tkAll tk l s).2.bad = true
  | [], _, h => h
  | t :: l, s, h => by rw [tkAll]; exact all_bad tk l _ (part_bad tk t s h)
theorem all_rest {α : Type} (tk : Sc → α × Sc) : ∀ (l : List (List UInt8)) (s : Sc), (tkAll tk l s).2.rest = s.rest
  | [], _ => rfl
  | t :: l, s => by rw [tkAll]; exact all_rest tk l _
theorem all_len {α : Type} (tk : Sc → α × Sc) : ∀ (l : List (List UInt8)) (s : Sc), (tkAll tk l s).1.length = l.length
  | [], _ => rfl
  | t :: l, s => by rw [tkAll]; simp only [List.length_cons]; rw [all_len tk l _]
theorem all_none {α : Type} {p : Pr α} {tk : Sc → α × Sc} (h : Ag p tk) : ∀ (l : List (List UInt8)) (s : Sc), many p l = none → (tkAll tk l s).2.bad = true
  | [], _, hn => by simp [many] at hn
  | t :: l, s, hn => by
    rw [many] at hn
    rw [tkAll]
    cases hw : whole p t with
    | none => exact all_bad tk l _ (part_none h t s hw)
    | some x =>
      rw [hw] at hn
      simp only at hn
      cases hm : many p l with
      | none => exact all_none h l _ hm
      | some xs => rw [hm] at hn; simp at hn
theorem all_some {α : Type} {p : Pr α} {tk : Sc → α × Sc} (h : Ag p tk) : ∀ (l : List (List UInt8)) (s : Sc) (xs : List α), many p l = some xs → tkAll tk l s = (xs, s)
  | [], s, xs, hn => by simp only [many, Option.some.injEq] at hn; subst hn; rfl
  | t :: l, s, xs, hn => by
    rw [many] at hn
    rw [tkAll]
    cases hw : whole p t with
    | none => rw [hw] at hn; simp at hn
    | some x =>
      rw [hw] at hn
      simp only at hn
      cases hm : many p l with
      | none => rw [hm] at hn; simp at hn
      | some ys =>
        rw [hm] at hn
        simp only [Option.some.injEq] at hn
        subst hn
        rw [part_some h t s x hw, all_some h l s ys hm]
theorem ag_parts {α : Type} {p : Pr α} {tk : Sc → α × Sc} (h : Ag p tk) : Ag (rdParts p) (tkParts tk) where
  bad s hs := all_bad tk _ _ (ag_texts.bad s hs)
  len s := by
    unfold tkParts
    rw [all_rest]
    exact ag_texts.len s
  none s hb hn := by
    unfold rdParts at hn
    unfold tkParts
    cases hp : rdTexts s.rest with
    | none => exact all_bad tk _ _ (ag_texts.none s hb hp)
    | some y =>
      obtain ⟨l, r⟩ := y
      rw [hp] at hn
      simp only at hn
      rw [ag_texts.some s l r hb hp]
      cases hm : many p l with
      | none => exact all_none h l _ hm
      | some xs => rw [hm] at hn; simp at hn
  some s xs r hb hn := by
    unfold rdParts at hn
    unfold tkParts
    cases hp : rdTexts s.rest with
    | none => rw [hp] at hn; simp at hn
    | some y =>
      obtain ⟨l, r'⟩ := y
      rw [hp] at hn
      simp only at hn
      rw [ag_texts.some s l r' hb hp]
      cases hm : many p l with
      | none => rw [hm] at hn; simp at hn
      | some ys =>
        rw [hm] at hn
        simp only [Option.some.injEq, Prod.mk.injEq] at hn
        obtain ⟨rfl, rfl⟩ := hn
        exact all_some h l _ ys hm
theorem ag_one {α : Type} {p : Pr α} {tk : Sc → α × Sc} (h : Ag p tk) : Ag (rdPart p) (tkOne tk) where
  bad s hs := part_bad tk _ _ (ag_text.bad s hs)
  len s := ag_text.len s
  none s hb hn := by
    unfold rdPart at hn
    unfold tkOne tkThen
    cases hp : rdText s.rest with
    | none => exact part_bad tk _ _ (ag_text.none s hb hp)
    | some y =>
      obtain ⟨t, r⟩ := y
      rw [hp] at hn
      simp only at hn
      rw [ag_text.some s t r hb hp]
      cases hm : whole p t with
      | none => exact part_none h t _ hm
      | some x => rw [hm] at hn; simp at hn
  some s x r hb hn := by
    unfold rdPart at hn
    unfold tkOne tkThen
    cases hp : rdText s.rest with
    | none => rw [hp] at hn; simp at hn
    | some y =>
      obtain ⟨t, r'⟩ := y
      rw [hp] at hn
      simp only at hn
      rw [ag_text.some s t r' hb hp]
      cases hm : whole p t with
      | none => rw [hm] at hn; simp at hn
      | some z =>
        rw [hm] at hn
        simp only [Option.some.injEq, Prod.mk.injEq] at hn
        obtain ⟨rfl, rfl⟩ := hn
        exact part_some h t _ z hm
theorem rdSg_rest {s r : List UInt8} {x : Sg} (h : rdSg s = some (x, r)) : r = [] := by
  unfold rdSg at h
  cases h1 : rdInts 4 s with
  | none => rw [h1] at h; simp at h
  | some y =>
    rw [h1] at h; simp only at h
    cases h2 : rdText y.2 with
    | none => rw [h2] at h; simp at h
    | some y2 =>
      rw [h2] at h; simp only at h
      cases h3 : rdText y2.2 with
      | none => rw [h3] at h; simp at h
      | some y3 =>
        rw [h3] at h; simp only at h
        split at h
        · simp only [Option.some.injEq, Prod.mk.injEq] at h
          exact h.2.symm
        · simp at h
theorem ag_sg : Ag rdSg tkSg where
  bad s hs := by unfold tkSg; split <;> simp [hs]
  len s := by unfold tkSg; split <;> simp
  none s hb hn := by
    unfold tkSg whole
    rw [hn]
  some s x r hb hn := by
    have hr := rdSg_rest hn
    subst hr
    unfold tkSg
    rw [whole_of hn]
    simp only [hb]
theorem ag_st : Ag rdSt tkSt := ag_then (ag_ints 4) fun _ => ag_then ag_text fun _ => ag_then (ag_parts ag_sg) fun _ => ag_then (ag_one ag_sg) fun _ => ag_ret _
theorem ag_de : Ag rdDe tkDe := ag_then (ag_ints 1) fun _ => ag_then ag_text fun _ => ag_then (ag_parts ag_sg) fun _ => ag_ret _
theorem ag_ho : Ag rdHo tkHo := ag_then (ag_ints 1) fun _ => ag_then ag_de fun _ => ag_ret _
theorem ag_sn : Ag rdSn tkSn := ag_then (ag_ints 1) fun _ => ag_then ag_text fun _ => ag_then ag_texts fun _ => ag_then (ag_parts ag_sg) fun _ => ag_then (ag_parts ag_ho) fun _ => ag_ret _
theorem ag_ms : Ag rdMs tkMs := ag_then (ag_ints 6) fun _ => ag_then ag_text fun _ => ag_then (ag_one ag_sg) fun _ => ag_then (ag_parts ag_st) fun _ => ag_then (ag_parts ag_de) fun _ => ag_then (ag_one ag_sn) fun _ => ag_then ag_texts fun _ => ag_ret _

/-! what is read is in range -/
theorem unzig_i64 (n : Nat) (h : n < 18446744073709551616) : I64 (unzig n) := by
  unfold unzig I64
  split <;> omega
theorem getMany_all {α : Type} (g : List UInt8 → Option (α × Nat)) (P : α → Prop) (hg : ∀ s x k, g s = some (x, k) → P x) : ∀ (n : Nat) (s : List UInt8) (xs : List α) (m : Nat), getMany g n s = some (xs, m) → ∀ x ∈ xs, P x
  | 0, s, xs, m, h => by
    simp only [getMany, Option.some.injEq, Prod.mk.injEq] at h
    obtain ⟨rfl, rfl⟩ := h
    simp
  | n + 1, s, xs, m, h => by
    rw [getMany] at h
    cases hx : g s with
    | none => rw [hx] at h; simp at h
    | some y =>
      obtain ⟨x, k⟩ := y
      rw [hx] at h
      simp only at h
      cases hy : getMany g n (s.drop k) with
      | none => rw [hy] at h; simp at h
      | some z =>
        obtain ⟨ys, j⟩ := z
        rw [hy] at h
        simp only [Option.some.injEq, Prod.mk.injEq] at h
        obtain ⟨rfl, rfl⟩ := h
        intro z hz
        rcases List.mem_cons.1 hz with rfl | hz
        · exact hg s _ k hx
        · exact getMany_all g P hg n _ ys j hy z hz
theorem getInts_i64 {s : List UInt8} {xs : List Int} {k : Nat} (h : getInts s = some (xs, k)) : ∀ x ∈ xs, I64 x := by
  unfold getInts getAll at h
  cases hv : getV s with
  | none => rw [hv] at h; simp at h
  | some y =>
    obtain ⟨n, j⟩ := y
    rw [hv] at h
    simp only at h
    cases hy : getMany getInt n (s.drop j) with
    | none => rw [hy] at h; simp at h
    | some z =>
      obtain ⟨ys, i⟩ := z
      rw [hy] at h
      simp only [Option.some.injEq, Prod.mk.injEq] at h
      obtain ⟨rfl, rfl⟩ := h
      refine getMany_all getInt I64 (fun s x k h => ?_) n _ ys i hy
      unfold getInt at h
      cases hq : getV s with
      | none => rw [hq] at h; simp at h
      | some y =>
        rw [hq] at h
        simp only [Option.map_some, Option.some.injEq, Prod.mk.injEq] at h
        obtain ⟨rfl, _⟩ := h
        exact unzig_i64 _ (getVAt_lt 10 0 0 s y.1 y.2 (by omega) (by omega) hq)
theorem tkInts_ok (n : Nat) (s : Sc) : (tkInts n s).1.length = n ∧ ∀ x ∈ (tkInts n s).1, I64 x := by
  unfold tkInts
  split
  · rename_i h
    refine ⟨h, ?_⟩
    unfold tkR
    split
    · simp
    · cases hg : getInts s.rest with
      | none => simp
      | some y => exact getInts_i64 (k := y.2) hg
  · refine ⟨by simp, fun x hx => ?_⟩
    rw [List.mem_replicate] at hx
    rw [hx.2]
    exact ⟨by decide, by decide⟩
theorem tkInts_at (n : Nat) (s : Sc) (k : Nat) (h : k < n) : I64 ((tkInts n s).1.getD k 0) := by
  have h1 := tkInts_ok n s
  rw [List.getD_eq_getElem?_getD, List.getElem?_eq_getElem (by omega)]
  exact h1.2 _ (List.getElem_mem _)
theorem rdSg_ok {s r : List UInt8} {x : Sg} (h : rdSg s = some (x, r)) : x.ok := by
  unfold rdSg at h
  cases h1 : rdInts 4 s with
  | none => rw [h1] at h; simp at h
  | some y =>
    have hi : ∀ k, k < 4 → I64 (y.1.getD k 0) := fun k hk => by
      have := (ag_ints 4).some ⟨s, false⟩ y.1 y.2 rfl h1
      have h2 := tkInts_at 4 ⟨s, false⟩ k hk
      rw [this] at h2
      exact h2
    rw [h1] at h; simp only at h
    cases h2 : rdText y.2 with
    | none => rw [h2] at h; simp at h
    | some y2 =>
      rw [h2] at h; simp only at h
      cases h3 : rdText y2.2 with
      | none => rw [h3] at h; simp at h
      | some y3 =>
        rw [h3] at h; simp only at h
        split at h
        · simp only [Option.some.injEq, Prod.mk.injEq] at h
          rw [← h.1]
          exact ⟨hi 0 (by omega), hi 1 (by omega), hi 2 (by omega), hi 3 (by omega)⟩
        · simp at h
theorem tkSg_ok (s : Sc) : (tkSg s).1.ok := by
  unfold tkSg
  split
  · exact ⟨⟨by decide, by decide⟩, ⟨by decide, by decide⟩, ⟨by decide, by decide⟩, ⟨by decide, by decide⟩⟩
  · rename_i x hx
    unfold whole at hx
    cases hp : rdSg s.rest with
    | none => rw [hp] at hx; simp at hx
    | some y =>
      rw [hp] at hx
      simp only at hx
      split at hx
      · simp only [Option.some.injEq] at hx
        subst hx
        exact rdSg_ok (r := y.2) hp
      · simp at hx

/-! the sizes of whatever is read -/
theorem tkText_sz (s : Sc) : (tkText s).1.length + (tkText s).2.rest.length ≤ s.rest.length := by
  unfold tkText tkR
  split
  · simp
  · cases hg : getStr s.rest with
    | none => simp
    | some y =>
      have := getStr_le (x := y.1) (k := y.2) hg
      simp only [List.length_drop]
      omega
theorem tkTexts_sz (s : Sc) : sum szS (tkTexts s).1 + (tkTexts s).2.rest.length ≤ s.rest.length := by
  unfold tkTexts tkR
  split
  · simp [sum]
  · cases hg : getList s.rest with
    | none => simp [sum]
    | some y =>
      have := getAll_sum getStr szS (fun s x k h => by have := getStr_le h; unfold szS; omega) (s := s.rest) (xs := y.1) (k := y.2) hg
      simp only [List.length_drop]
      omega
theorem tkSg_sz (s : Sc) : (tkSg s).1.sz ≤ s.rest.length + 7 := by
  unfold tkSg
  split
  · simp [sg0, Sg.sz]
  · rename_i x hx
    have := whole_sz rdSg_sz hx
    simp only
    omega
theorem tkAllSg_sz : ∀ (l : List (List UInt8)) (s : Sc), sum Sg.sz (tkAll tkSg l s).1 ≤ 8 * sum szS l
  | [], _ => by simp [tkAll, sum]
  | t :: l, s => by
    rw [tkAll]
    simp only [sum_cons]
    have h1 := tkAllSg_sz l (tkPart tkSg t s).2
    have h2 : (tkPart tkSg t s).1.sz ≤ t.length + 7 := tkSg_sz ⟨t, false⟩
    unfold szS at h1 ⊢
    omega
theorem tkInts_rest (n : Nat) (s : Sc) : (tkInts n s).2.rest.length ≤ s.rest.length := (ag_ints n).len s
theorem tkSt_sz (s : Sc) : (tkSt s).1.sz ≤ 8 * s.rest.length + 14 := by
  have h1 := tkInts_rest 4 s
  have h2 := tkText_sz (tkInts 4 s).2
  have h3 := tkTexts_sz (tkText (tkInts 4 s).2).2
  have h4 := tkAllSg_sz (tkTexts (tkText (tkInts 4 s).2).2).1 (tkTexts (tkText (tkInts 4 s).2).2).2
  have h5 : (tkParts tkSg (tkText (tkInts 4 s).2).2).2.rest = (tkTexts (tkText (tkInts 4 s).2).2).2.rest := all_rest _ _ _
  have h6 := tkText_sz (tkParts tkSg (tkText (tkInts 4 s).2).2).2
  have h7 := tkSg_sz ⟨(tkText (tkParts tkSg (tkText (tkInts 4 s).2).2).2).1, false⟩
  rw [h5] at h6
  show (tkText (tkInts 4 s).2).1.length + sum Sg.sz (tkParts tkSg (tkText (tkInts 4 s).2).2).1 + (tkSg ⟨(tkText (tkParts tkSg (tkText (tkInts 4 s).2).2).2).1, false⟩).1.sz + 7 ≤ _
  have h8 : sum Sg.sz (tkParts tkSg (tkText (tkInts 4 s).2).2).1 ≤ 8 * sum szS (tkTexts (tkText (tkInts 4 s).2).2).1 := h4
  simp only at h7
  omega
end Go.Proofs.YtoehakekjlebdaaGreatDoor
/- The reference's readers, in plain words: a text and whether all went well. -/
namespace Go.Proofs.YtoehakekjlebdaaGreatDoor

/-- what remains to be read, and whether all went well -/
structure Rc where
  s : List UInt8
  ok : Bool
def Rc.fail : Rc := ⟨[], false⟩
/-- one reader, with what comes in its place -/
def rk {α : Type} (p : Pr α) (d : α) (r : Rc) : α × Rc :=
  if r.ok then match p r.s with
    | none => (d, Rc.fail)
    | some (x, q) => (x, ⟨q, true⟩)
  else (d, Rc.fail)
def rkThen {α β : Type} (a : Rc → α × Rc) (f : α → Rc → β × Rc) (s : Rc) : β × Rc := f (a s).1 (a s).2
def rkRet {α : Type} (x : α) (s : Rc) : α × Rc := (x, s)
def rkInts (n : Nat) : Rc → List Int × Rc := rk (rdInts n) (List.replicate n 0)
def rkText : Rc → List UInt8 × Rc := rk rdText []
def rkTexts : Rc → List (List UInt8) × Rc := rk rdTexts []
def rkSgs : Rc → List Sg × Rc := rk (rdParts rdSg) []
def rkOne : Rc → Sg × Rc := rk (rdPart rdSg) sg0
def rkSt : Rc → St × Rc := rkThen (rkInts 4) fun n => rkThen rkText fun a => rkThen rkSgs fun c => rkThen rkOne fun g => rkRet ⟨n.getD 0 0, n.getD 1 0, n.getD 2 0, n.getD 3 0, a, Sl.of c, g⟩
def rkDe : Rc → De × Rc := rkThen (rkInts 1) fun n => rkThen rkText fun a => rkThen rkSgs fun c => rkRet ⟨n.getD 0 0, a, Sl.of c⟩
/-- a reader that says what a reader of a text says -/
structure Al {α : Type} (p : Pr α) (f : Rc → α × Rc) : Prop where
  bad : ∀ s : Rc, s.ok = false → (f s).2 = Rc.fail
  none : ∀ s : Rc, s.ok = true → p s.s = none → (f s).2 = Rc.fail
  some : ∀ (s : Rc) (x : α) (r : List UInt8), s.ok = true → p s.s = some (x, r) → f s = (x, ⟨r, true⟩)
theorem al_rk {α : Type} (p : Pr α) (d : α) : Al p (rk p d) where
  bad s h := by unfold rk; rw [if_neg (by simp [h])]
  none s h hn := by unfold rk; rw [if_pos h, hn]
  some s x r h hn := by unfold rk; rw [if_pos h, hn]
theorem al_ret {α : Type} (x : α) (f : Rc → α × Rc) (hf : f = rkRet x) : ∀ s : Rc, (s.ok = false → s = Rc.fail) → (s.ok = false → (f s).2 = Rc.fail) ∧ f s = (x, s) := by
  intro s hs
  subst hf
  exact ⟨fun h => hs h, rfl⟩
/-- a state that is bad is the failed one -/
def Rc.norm (s : Rc) : Prop := s.ok = false → s = Rc.fail
theorem fail_norm : Rc.fail.norm := fun _ => rfl
structure Al2 {α : Type} (p : Pr α) (f : Rc → α × Rc) : Prop where
  bad : (f Rc.fail).2 = Rc.fail
  none : ∀ s : List UInt8, p s = none → (f ⟨s, true⟩).2 = Rc.fail
  some : ∀ (s : List UInt8) (x : α) (r : List UInt8), p s = some (x, r) → f ⟨s, true⟩ = (x, ⟨r, true⟩)
theorem al2_rk {α : Type} (p : Pr α) (d : α) : Al2 p (rk p d) where
  bad := rfl
  none s hn := by unfold rk; rw [if_pos rfl, hn]
  some s x r hn := by unfold rk; rw [if_pos rfl, hn]
theorem al2_ret {α : Type} (x : α) : Al2 (Pr.ret x) (rkRet x) where
  bad := rfl
  none s h := by simp [Pr.ret] at h
  some s y r h := by
    simp only [Pr.ret, Option.some.injEq, Prod.mk.injEq] at h
    obtain ⟨rfl, rfl⟩ := h
    rfl
theorem al2_then {α β : Type} {p : Pr α} {a : Rc → α × Rc} {q : α → Pr β} {f : α → Rc → β × Rc} (h : Al2 p a) (k : ∀ x, Al2 (q x) (f x)) : Al2 (p.then q) (rkThen a f) where
  bad := by unfold rkThen; rw [h.bad]; exact (k _).bad
  none s hn := by
    unfold Pr.then at hn
    unfold rkThen
    cases hp : p s with
    | none => rw [h.none s hp]; exact (k _).bad
    | some y =>
      obtain ⟨x, r⟩ := y
      rw [hp] at hn
      simp only at hn
      rw [h.some s x r hp]
      exact (k x).none r hn
  some s y r hn := by
    unfold Pr.then at hn
    unfold rkThen
    cases hp : p s with
    | none => rw [hp] at hn; simp at hn
    | some z =>
      obtain ⟨x, q'⟩ := z
      rw [hp] at hn
      simp only at hn
      rw [h.some s x q' hp]
      exact (k x).some q' y r hn
theorem al2_st : Al2 rdSt rkSt := al2_then (al2_rk _ _) fun _ => al2_then (al2_rk _ _) fun _ => al2_then (al2_rk _ _) fun _ => al2_then (al2_rk _ _) fun _ => al2_ret _
theorem al2_de : Al2 rdDe rkDe := al2_then (al2_rk _ _) fun _ => al2_then (al2_rk _ _) fun _ => al2_then (al2_rk _ _) fun _ => al2_ret _
/-- the snapshot's -/
def rkSn (s : Rc) : Sn × Rc :=
  let n := rkInts 1 s
  let a := rkText n.2
  let c := rkTexts a.2
  let p := rkSgs c.2
  let l := rkTexts p.2
  match many rdHo l.1 with
  | none => (⟨0, [], Sl.nil, Sl.nil, Sl.nil⟩, Rc.fail)
  | some hs => (⟨n.1.getD 0 0, a.1, Sl.of c.1, Sl.of p.1, Sl.of hs⟩, l.2)
end Go.Proofs.YtoehakekjlebdaaGreatDoor
