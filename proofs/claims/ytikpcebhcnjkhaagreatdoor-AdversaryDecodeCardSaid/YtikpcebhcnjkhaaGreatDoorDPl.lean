/- Short forms of the steps of a region that draws its order. -/
import Derived.Deep.RegionHeld
import Derived.Tactics
import Derived.Lib.Hide
import Derived.Below
import Derived.Lib.Strings
import Derived.Lib.UnsafeStr
import Derived.Deep.Draws
import Derived.OwnWalk
namespace Go.Proofs.YtikpcebhcnjkhaaGreatDoor
open Go.RowKit
section
variable {P : Program} {md : Region.Mode} {ops : Array Oper} {Q : Exit → Act → World → Prop} {S : World → Prop} {oi : Oper} {v : Value} {fuel : Nat} {listed : Array Bool} {a : Act} {w : World}
theorem tkq (i : Nat) (hi : ops[i]? = some oi) (hy : YieldsIf P ops S oi v a) (hS : S w) (h : wpAnyH P md ops Q S fuel (listed.setIfInBounds i true) (a.put oi.dst v) w)
    (hs : Region.noSelect ops = true := by kernel_rfl) (hf : Region.free md ops listed i = true := by kernel_rfl) (hr : (Region.ready md ops listed).contains i = true := by kernel_rfl)
    (hQ : ∀ c a w, Q (.panic c) (a.put oi.dst v) w → Q (.panic c) a w := by exact fun _ _ _ h => h) : wpAnyH P md ops Q S (fuel + 1) listed a w := wpAnyH_take hi hs hf hr hQ hy hS h
theorem tkr (i : Nat) {o : Oper} (ho : ops[i]? = some o)
    (h : ∀ K' : Act → World → Prop, Shut (∀ a w, S w → (S w → wpAnyH P md ops Q S fuel (listed.setIfInBounds i true) a w) → K' a w) → if Region.wanted o (yielded ops a.tmps) = true then Oper.wp P o a w K' Q else K' (a.put o.dst undef) w)
    (hr : Region.ready md ops listed = [i] := by kernel_rfl) : wpAnyH P md ops Q S (fuel + 1) listed a w := wpAnyH_ready hr (by simp) (AllReadyH.cons ho h AllReadyH.nil)
end
theorem hD {p : Prop} (h : p) : Hid p := Lib.hid h
theorem qk1 {α : Type} {l : List α} {i : Nat} {a : α} : l.toArray.setIfInBounds i a = (l.set i a).toArray := List.setIfInBounds_toArray _ _ _
theorem qk2 {α : Type} {a b : α} {l : List α} : (a :: l).set 0 b = b :: l := List.set_cons_zero
theorem qk3 {α : Type} {a b : α} {l : List α} {n : Nat} : (a :: l).set (n + 1) b = a :: l.set n b := List.set_cons_succ
theorem qk4 {α : Type} {l : List α} {i : Nat} (h : i < l.toArray.size) : l.toArray[i] = l[i]'(by simpa using h) := List.getElem_toArray h
theorem qk5 {α : Type} {a : α} {l : List α} {i : Nat} (h : i + 1 < (a :: l).length) : (a :: l)[i + 1] = l[i]'(Nat.lt_of_succ_lt_succ h) := List.getElem_cons_succ ..
theorem qk6 {α : Type} {a : α} {l : List α} (h : 0 < (a :: l).length) : (a :: l)[0] = a := rfl
theorem qd1 {α : Type} {a : α} {l : List α} {i : Nat} : (a :: l).drop (i + 1) = l.drop i := List.drop_succ_cons
theorem qd2 {α : Type} {l : List α} : l.drop 0 = l := List.drop_zero
theorem qd3 {α : Type} {a : α} {as : List α} {i : Nat} : (a :: as).take (i + 1) = a :: as.take i := List.take_succ_cons
theorem qd4 {α : Type} {l : List α} : l.take 0 = [] := List.take_zero
theorem qd5 {α : Type} {a : α} {l : List α} {i : Nat} : (a :: l)[i + 1]? = l[i]? := List.getElem?_cons_succ
theorem qd6 {α : Type} {a : α} {l : List α} : (a :: l)[0]? = some a := List.getElem?_cons_zero
theorem qk : (∀ {α : Type} {l : List α} {i : Nat} {a : α}, l.toArray.setIfInBounds i a = (l.set i a).toArray) ∧ (∀ {α : Type} {a b : α} {l : List α}, (a :: l).set 0 b = b :: l) ∧ (∀ {α : Type} {a b : α} {l : List α} {n : Nat}, (a :: l).set (n + 1) b = a :: l.set n b) ∧
    (∀ {α : Type} {l : List α} {i : Nat} (h : i < l.toArray.size), l.toArray[i] = l[i]'(by simpa using h)) ∧ (∀ {α : Type} {a : α} {l : List α} {i : Nat} (h : i + 1 < (a :: l).length), (a :: l)[i + 1] = l[i]'(Nat.lt_of_succ_lt_succ h)) ∧ (∀ {α : Type} {a : α} {l : List α} (h : 0 < (a :: l).length), (a :: l)[0] = a) :=
 ⟨List.setIfInBounds_toArray _ _ _, List.set_cons_zero, List.set_cons_succ, List.getElem_toArray, fun _ => List.getElem_cons_succ .., fun _ => rfl⟩
/-- Operations taken first, one after the other. -/
def Takes (P : Program) (ops : Array Oper) (S : World → Prop) : List Nat → Act → Act → Prop
 | [], a, b => a = b
 | i :: is, a, b => ∃ oi v, ops[i]? = some oi ∧ YieldsIf P ops S oi v a ∧ Takes P ops S is (a.put oi.dst v) b
def tkOk (md : Region.Mode) (ops : Array Oper) : List Nat → Array Bool → Nat → Bool
 | [], _, _ => true
 | _ :: _, _, 0 => false
 | i :: is, l, n + 1 => Region.free md ops l i && (Region.ready md ops l).contains i && tkOk md ops is (l.setIfInBounds i true) n
def tkL : List Nat → Array Bool → Array Bool
 | [], l => l
 | i :: is, l => tkL is (l.setIfInBounds i true)
section
variable {P : Program} {md : Region.Mode} {ops : Array Oper} {Q : Exit → Act → World → Prop} {S : World → Prop} {oi : Oper} {v : Value} {is : List Nat} {i : Nat} {a b : Act} {w : World}
theorem tkn : Takes P ops S [] a a := rfl
theorem tkl (hi : ops[i]? = some oi) (hw : Region.wanted oi (yielded ops a.tmps) = true) (hv : ∀ W, S W → (execOp a.eval oi).run P W = .ok (.value v) W) (h : Takes P ops S is (a.put oi.dst v) b) : Takes P ops S (i :: is) a b :=
 ⟨oi, v, hi, .inl ⟨hw, hv⟩, h⟩
theorem tks (hi : ops[i]? = some oi) (hw : Region.wanted oi (yielded ops a.tmps) = false) (h : Takes P ops S is (a.put oi.dst undef) b) : Takes P ops S (i :: is) a b :=
 ⟨oi, undef, hi, .inr ⟨hw, rfl⟩, h⟩
theorem takes_go (hs : Region.noSelect ops = true) (hQ : ∀ c a t v w, Q (.panic c) (a.put t v) w → Q (.panic c) a w) (hS : S w) :
    ∀ (is : List Nat) (fuel : Nat) (listed : Array Bool) (a b : Act), tkOk md ops is listed fuel = true → Takes P ops S is a b → wpAnyH P md ops Q S (fuel - is.length) (tkL is listed) b w → wpAnyH P md ops Q S fuel listed a w
 | [], _, _, _, _, _, ht, h => by cases ht; exact h
 | _ :: _, 0, _, _, _, hc, _, _ => by cases hc
 | i :: is, n + 1, l, a, b, hc, ⟨oi, v, hi, hy, ht⟩, h => by
  simp only [tkOk, Bool.and_eq_true] at hc
  exact wpAnyH_take hi hs hc.1.1 hc.1.2 (fun c a w => hQ c a oi.dst v w) hy hS (takes_go hs hQ hS is n _ _ b hc.2 ht (by simpa [tkL] using h))
/-- The operations IS are taken first: loads and moves that the condition S decides, or that are skipped. -/
theorem takes (is : List Nat) {fuel : Nat} {listed : Array Bool} (h : wpAnyH P md ops Q S (fuel - is.length) (tkL is listed) b w)
    (ht : Takes P ops S is a b := by
     repeat (first
      | exact tkn
      | (apply tkl
         exact rfl
         exact rfl
         (intro W h; (try dsimp only at h); go_simp; (try with_reducible rfl))
         try simp only [Act.put,qk])
      | (apply tks
         exact rfl
         exact rfl
         try simp only [Act.put,qk])))
    (hS : S w := by assumption) (hc : tkOk md ops is listed fuel = true := by kernel_rfl) (hs : Region.noSelect ops = true := by kernel_rfl)
    (hQ : ∀ c a t v w, Q (.panic c) (a.put t v) w → Q (.panic c) a w := by (intro c a t v w h; cases t <;> exact h)) : wpAnyH P md ops Q S fuel listed a w := takes_go hs hQ hS is fuel listed a b hc ht h
end
open Go.RowKit
theorem ret_bool {a b : Bool} (h : a = b) : Ending.returned (.bool a) = .returned (.bool b) := by rw [h]
theorem ret_int {k : IntKind} {a b : Int} (h : a = b) : Ending.returned (.int k a) = .returned (.int k b) := by rw [h]
theorem len_data (t : ByteArray) : t.data.toList.length = t.size := by simp
theorem str_cat (a b : List UInt8) : ByteArray.mk a.toArray ++ ByteArray.mk b.toArray = ByteArray.mk (a ++ b).toArray := by
 apply ByteArray.ext
 simp
theorem str_mk (b : ByteArray) : ByteArray.mk b.data.toList.toArray = b := by
 apply ByteArray.ext
 simp
theorem size_mk (l : List UInt8) : (ByteArray.mk l.toArray).size = l.length := by simp [ByteArray.size]
theorem size_cat (a b : List UInt8) : (ByteArray.mk a.toArray ++ ByteArray.mk b.toArray).size = a.length + b.length := by
 rw [str_cat, size_mk]; simp
theorem byte_lt (c : UInt8) : c.toNat < 256 := c.toNat_lt
theorem byteCells_snoc (l : List UInt8) (c : Int) (h0 : 0 ≤ c) (h1 : c < 256) : Lib.byteCells l ++ [.int .u8 c] = Lib.byteCells (l ++ [c.toNat.toUInt8]) := by
 obtain ⟨n, rfl⟩ := Int.eq_ofNat_of_zero_le h0
 have : n % 256 = n := Nat.mod_eq_of_lt (by omega)
 simp [Lib.byteCells, this]
structure Rd (w : World) (k : Nat) (A : Option Addr) (n : Nat) (xs : List Value) : Prop where
 len : xs.length = n * k
 cells : 0 < xs.length → ∃ b o, A = some ⟨b, o, none⟩ ∧ b < w.heap.size ∧ ∀ j u, xs[j]? = some u → w.cell? ⟨b, o + j, none⟩ = some u
theorem Rd.below {w w' : World} {k n : Nat} {A : Option Addr} {xs : List Value} (h : Rd w k A n xs) (hb : Below w.heap.size w w') : Rd w' k A n xs :=
 ⟨h.len, fun hj => by
  obtain ⟨b, o, e, hl, hc⟩ := h.cells hj
  exact ⟨b, o, e, Nat.lt_of_lt_of_le hl hb.size, fun j u hu => (hb.cell (p := ⟨b, o + j, none⟩) hl).trans (hc j u hu)⟩⟩
theorem add_off (g j : Nat) : (⟨g, 0, none⟩ : Addr).add j = ⟨g, 0 + j, none⟩ := by unfold Addr.add; split <;> simp_all
theorem add_plain' (b o j : Nat) : (⟨b, o, none⟩ : Addr).add j = ⟨b, o + j, none⟩ := by unfold Addr.add; split <;> simp_all
theorem Rd.own {w : World} {base e k n : Nat} {A : Option Addr} {c : Nat} {xs : List Value} (h : w.ownsRow base e k (.slice A n c) n xs) : Rd w k A n xs := by
 refine ⟨h.1, fun hj => ?_⟩
 rcases h.2 with ⟨h1, h2⟩ | ⟨g, cap, cur, hv, _, hg, _⟩
 · have := h.1; subst h2; simp at this; subst this; simp at hj
 · injection hv with h1 h2 h3
   subst h1
   have hlt := (h.lt g rfl).2
   exact ⟨g, 0, rfl, hlt, fun j u hu => by rw [← add_off]; exact h.cells rfl j u hu⟩
theorem Rd.nil (w : World) (k : Nat) (A : Option Addr) : Rd w k A 0 [] := ⟨by simp, fun hj => by simp at hj⟩
theorem ownsRow_form {w : World} {base e k n : Nat} {v : Value} {xs : List Value} (h : w.ownsRow base e k v n xs) : ∃ A c, v = .slice A n c := by
 rcases h.2 with ⟨h1, h2⟩ | ⟨g, cap, cur, hv, _⟩
 · exact ⟨none, 0, by rw [h1, h2]⟩
 · exact ⟨_, _, hv⟩
theorem ownsRow_below {w w' : World} {base e k n : Nat} {v : Value} {xs : List Value} (h : w.ownsRow base e k v n xs) (hb : Below w.heap.size w w') : w'.ownsRow base e k v n xs := by
 refine ⟨h.1, ?_⟩
 rcases h.2 with h1 | ⟨g, cap, cur, hv, hge, hg, rest⟩
 · exact .inl h1
 · have hlt : g < w.heap.size := (h.lt g (by rw [hv]; rfl)).2
   exact .inr ⟨g, cap, cur, hv, hge, (hb.block g hlt).trans hg, rest⟩
theorem below_grown {B : Nat} {a w w' : World} {row : Option Nat} (h : Below B a w) (hB : B ≤ w.heap.size) (hg : w.grownBy w' row) (hr : ∀ g, row = some g → B ≤ g) : Below B a w' :=
 h.trans ⟨hg.os, hg.tape, hg.output, hg.size, fun k hk => hg.block k (by omega) (fun e => by have := hr k e.symm; omega)⟩
theorem bdN {B : Nat} {a w : World} (h : Below B a w) (n : Nat) : Below B a (w.drewN n) := h.trans ⟨rfl, rfl, rfl, Nat.le_refl _, fun _ _ => rfl⟩
theorem below_new (w : World) (o : Obj) : Below w.heap.size w (w.alloc o) := (Below.refl _ _).alloc (Nat.le_refl _) _
theorem bon {w w1 w2 : World} (h : Below w.heap.size w w1) (k : Below w1.heap.size w1 w2) : Below w.heap.size w w2 := h.trans (k.mono h.size)
theorem cell_new (W : World) (cs : List Value) (T : TypeId) (b : Nat) (hb : b = W.heap.size) : ∀ j u, cs[j]? = some u → (W.alloc (.cells cs.toArray T)).cell? ((⟨b, 0, none⟩ : Addr).add j) = some u := by
 intro j u h
 subst hb
 rw [show ((⟨W.heap.size, 0, none⟩ : Addr).add j) = ⟨W.heap.size, j, none⟩ from by unfold Addr.add; split <;> simp_all]
 have h1 : (W.alloc (.cells cs.toArray T)).heap[W.heap.size]? = some (.cells cs.toArray T) := by
  show (W.heap.push _)[W.heap.size]? = _
  simp
 simp only [World.cell?]
 rw [h1]
 simpa using h
theorem rd_new (w : World) (k n : Nat) (cs : List Value) (T : TypeId) (h : cs.length = n * k) : Rd (w.alloc (.cells cs.toArray T)) k (some ⟨w.heap.size, 0, none⟩) n cs :=
 ⟨h, fun _ => ⟨w.heap.size, 0, rfl, by simp, fun j u hu => by rw [← add_off]; exact cell_new w cs T _ rfl j u hu⟩⟩
def strC (l : List (List UInt8)) : List Value := l.map fun x => .string ⟨x.toArray⟩
theorem strC_len (l : List (List UInt8)) : (strC l).length = l.length := by simp [strC]
def intC (l : List Int) : List Value := l.map fun x => .int .i64 x
theorem intC_len (l : List Int) : (intC l).length = l.length := by simp [intC]
theorem flat_get {α : Type} (C : α → List Value) (m : Nat) (hC : ∀ x, (C x).length = m) (l : List α) (k : Nat) (hk : k < l.length) (j : Nat) (hj : j < m) : (l.flatMap C)[k * m + j]? = (C l[k])[j]? := by
 induction l generalizing k with
 | nil => simp at hk
 | cons x r ih =>
  cases k with
  | zero => simp only [List.flatMap_cons, Nat.zero_mul, Nat.zero_add, List.getElem_cons_zero]; rw [List.getElem?_append_left (by rw [hC]; exact hj)]
  | succ k =>
   have := ih k (by simpa using hk)
   simp only [List.flatMap_cons, List.getElem_cons_succ]
   rw [List.getElem?_append_right (by rw [hC, Nat.succ_mul]; omega), hC, show (k + 1) * m + j - m = k * m + j from by rw [Nat.succ_mul]; omega, this]
theorem flat_len {α : Type} (C : α → List Value) (m : Nat) (hC : ∀ x, (C x).length = m) (l : List α) : (l.flatMap C).length = l.length * m := by
 induction l with
 | nil => simp
 | cons x r ih => simp only [List.flatMap_cons, List.length_append, List.length_cons] at ih ⊢; rw [ih, hC, Nat.succ_mul]; omega
theorem Rd.at {α : Type} {w : World} {m : Nat} {A : Option Addr} {l : List α} {C : α → List Value} (h : Rd w m A l.length (l.flatMap C)) (hC : ∀ x, (C x).length = m) (hm : 0 < m) {k : Nat} (hk : k < l.length) :
    ∃ b o, A = some ⟨b, o, none⟩ ∧ b < w.heap.size ∧ ∀ w', Below w.heap.size w w' → ∀ j v, (C l[k])[j]? = some v → w'.cell? ⟨b, o + k * m + j, none⟩ = some v := by
 have hp : 0 < l.length * m := Nat.mul_pos (by omega) hm
 obtain ⟨b, o, rfl, hb, hc⟩ := h.cells (by rw [flat_len C m hC]; exact hp)
 refine ⟨b, o, rfl, hb, fun w' hw j v hv => ?_⟩
 rw [hw.cell (p := ⟨b, o + k * m + j, none⟩) hb]
 have hj : j < m := by
  have := (List.getElem?_eq_some_iff.1 hv).1
  rwa [hC] at this
 have := hc (k * m + j) v (by rw [flat_get C m hC l k hk j hj]; exact hv)
 rwa [← Nat.add_assoc] at this
def RetStr (l : List UInt8) (w : World) (e : Ending) (w' : World) : Prop := e = .returned (.string ⟨l.toArray⟩) ∧ Below w.heap.size w w'
theorem ret_st {l l' : List UInt8} {w w' : World} (h : l = l') (hb : Below w.heap.size w w') : RetStr l w (.returned (.string ⟨l'.toArray⟩)) w' := ⟨by rw [h], hb⟩
def varint (n : Nat) : List UInt8 := if n < 128 then [n.toUInt8] else (128 + n % 128).toUInt8 :: varint (n / 128)
termination_by n
decreasing_by omega
theorem varint_small (n : Nat) (h : n < 128) : varint n = [n.toUInt8] := by rw [varint, if_pos h]
theorem varint_big (n : Nat) (h : ¬ n < 128) : varint n = (128 + n % 128).toUInt8 :: varint (n / 128) := by rw [varint, if_neg h]
theorem varint_len : ∀ (k n : Nat), n < 128 ^ (k + 1) → (varint n).length ≤ k + 1
 | 0, n, h => by rw [varint_small n (by simpa using h)]; simp
 | k + 1, n, h => by
  by_cases hn : n < 128
  · rw [varint_small n hn]; simp
  · rw [varint_big n hn]
    have := varint_len k (n / 128) (by rw [Nat.div_lt_iff_lt_mul (by omega)]; rw [Nat.pow_succ] at h; omega)
    simp only [List.length_cons]
    omega
theorem varint_ten (n : Nat) (h : n < 18446744073709551616) : (varint n).length ≤ 10 := varint_len 9 n (by omega)
def zig (n : Int) : Nat := if 0 ≤ n then (2 * n).toNat else (-2 * n - 1).toNat
theorem zig_lt (n : Int) (h0 : -9223372036854775808 ≤ n) (h1 : n ≤ 9223372036854775807) : zig n < 18446744073709551616 := by
 unfold zig; split <;> omega
def I64 (n : Int) : Prop := -9223372036854775808 ≤ n ∧ n ≤ 9223372036854775807
def putStr (s : List UInt8) : List UInt8 := varint s.length ++ s
def putList (l : List (List UInt8)) : List UInt8 := varint l.length ++ l.flatMap putStr
def putInts (l : List Int) : List UInt8 := varint l.length ++ l.flatMap fun n => varint (zig n)
def tot (ls : List (List UInt8)) : Nat := (ls.map List.length).sum
theorem tot_cons (x : List UInt8) (r : List (List UInt8)) : tot (x :: r) = x.length + tot r := by simp [tot]
theorem tot_snoc (ls : List (List UInt8)) (x : List UInt8) : tot (ls ++ [x]) = tot ls + x.length := by simp [tot]
theorem tot_take (ls : List (List UInt8)) (k : Nat) : tot (ls.take k) ≤ tot ls := by
 induction ls generalizing k with
 | nil => simp
 | cons x r ih =>
  cases k with
  | zero => simp [tot]
  | succ k => have := ih k; rw [List.take_succ_cons, tot_cons, tot_cons]; omega
theorem tot_get (ls : List (List UInt8)) (k : Nat) (h : k < ls.length) : ls[k].length ≤ tot ls := by
 have := tot_take ls (k + 1)
 rw [List.take_succ_eq_append_getElem h, tot_snoc] at this
 omega
theorem putStr_len (s : List UInt8) (h : s.length < 18446744073709551616) : (putStr s).length ≤ 10 + s.length := by
 have := varint_ten s.length h
 simp only [putStr, List.length_append]; omega
theorem strs_len (l : List (List UInt8)) (h : tot l < 18446744073709551616) : (l.flatMap putStr).length ≤ 10 * l.length + tot l := by
 induction l with
 | nil => simp
 | cons x r ih =>
  rw [tot_cons] at h ⊢
  have h1 := putStr_len x (by omega)
  have h2 := ih (by omega)
  simp only [List.flatMap_cons, List.length_append, List.length_cons] at h2 ⊢
  omega
theorem ints_len (l : List Int) (h : ∀ n ∈ l, I64 n) : (l.flatMap fun n => varint (zig n)).length ≤ 10 * l.length := by
 induction l with
 | nil => simp
 | cons x r ih =>
  have h1 := varint_ten (zig x) (zig_lt x (h x (by simp)).1 (h x (by simp)).2)
  have h2 := ih (fun n hn => h n (by simp [hn]))
  simp only [List.flatMap_cons, List.length_append, List.length_cons] at h2 ⊢
  omega
theorem putInts_len (l : List Int) (h : ∀ n ∈ l, I64 n) (h2 : l.length < 18446744073709551616) : (putInts l).length ≤ 10 + 10 * l.length := by
 have h1 := ints_len l h
 have h3 := varint_ten l.length h2
 simp only [putInts, List.length_append]; omega
open Go.RowKit
structure Sl (α : Type) where
 a : Option Addr
 c : Nat
 l : List α
def Sl.v {α : Type} (s : Sl α) : Value := .slice s.a s.l.length s.c
def Sl.nil {α : Type} : Sl α := ⟨none, 0, []⟩
structure Sg where
 (server kind view slot : Int) (digest sig : List UInt8)
 deriving DecidableEq
structure St where
 (server view length lockView : Int) (lock : List UInt8) (cert : Sl Sg) (signed : Sg)
structure De where
 (view : Int) (value : List UInt8) (cert : Sl Sg)
structure Ho where
 (slot : Int) (entry : De)
structure Sn where
 (slot : Int) (root : List UInt8) (chunks : Sl (List UInt8)) (proof : Sl Sg) (chain : Sl Ho)
structure Ms where
 (kind src dst view slot : Int) (value : List UInt8) (till : Int) (signed : Sg) (statuses : Sl St) (entries : Sl De) (snapshot : Sn) (texts : Sl (List UInt8))
/-! the encodings -/
def contSg (x : Sg) : List UInt8 := putInts [x.server, x.kind, x.view, x.slot] ++ putStr x.digest
/-! the cells -/
def sgC (x : Sg) : List Value := [.int .i64 x.server, .int .i64 x.kind, .int .i64 x.view, .int .i64 x.slot, .string ⟨x.digest.toArray⟩, .string ⟨x.sig.toArray⟩]
def stC (s : St) : List Value := [.int .i64 s.server, .int .i64 s.view, .int .i64 s.length, .int .i64 s.lockView, .string ⟨s.lock.toArray⟩, s.cert.v,
 .int .i64 s.signed.server, .int .i64 s.signed.kind, .int .i64 s.signed.view, .int .i64 s.signed.slot, .string ⟨s.signed.digest.toArray⟩, .string ⟨s.signed.sig.toArray⟩]
def deC (d : De) : List Value := [.int .i64 d.view, .string ⟨d.value.toArray⟩, d.cert.v]
def hoC (h : Ho) : List Value := [.int .i64 h.slot, .int .i64 h.entry.view, .string ⟨h.entry.value.toArray⟩, h.entry.cert.v]
def snC (x : Sn) : List Value := [.int .i64 x.slot, .string ⟨x.root.toArray⟩, x.chunks.v, x.proof.v, x.chain.v]
def msC (m : Ms) : List Value := [.int .i64 m.kind, .int .i64 m.src, .int .i64 m.dst, .int .i64 m.view, .int .i64 m.slot, .string ⟨m.value.toArray⟩, .int .i64 m.till,
 .int .i64 m.signed.server, .int .i64 m.signed.kind, .int .i64 m.signed.view, .int .i64 m.signed.slot, .string ⟨m.signed.digest.toArray⟩, .string ⟨m.signed.sig.toArray⟩,
 m.statuses.v, m.entries.v, .int .i64 m.snapshot.slot, .string ⟨m.snapshot.root.toArray⟩, m.snapshot.chunks.v, m.snapshot.proof.v, m.snapshot.chain.v, m.texts.v]
def strV (x : List UInt8) : List Value := [.string ⟨x.toArray⟩]
/-! what stands in memory, and the ranges -/
def Sl.rd {α : Type} (k : Nat) (C : α → List Value) (s : Sl α) (w : World) : Prop := Rd w k s.a s.l.length (s.l.flatMap C)
def Sg.ok (x : Sg) : Prop := I64 x.server ∧ I64 x.kind ∧ I64 x.view ∧ I64 x.slot
def St.ok (s : St) (w : World) : Prop := (I64 s.server ∧ I64 s.view ∧ I64 s.length ∧ I64 s.lockView) ∧ s.cert.rd 6 sgC w ∧ (∀ x ∈ s.cert.l, x.ok) ∧ s.signed.ok
def De.ok (d : De) (w : World) : Prop := I64 d.view ∧ d.cert.rd 6 sgC w ∧ ∀ x ∈ d.cert.l, x.ok
def Ho.ok (h : Ho) (w : World) : Prop := I64 h.slot ∧ h.entry.ok w
def Sn.ok (x : Sn) (w : World) : Prop := I64 x.slot ∧ x.chunks.rd 1 strV w ∧ (x.proof.rd 6 sgC w ∧ ∀ y ∈ x.proof.l, y.ok) ∧ x.chain.rd 4 hoC w ∧ ∀ h ∈ x.chain.l, h.ok w
def Ms.ok (m : Ms) (w : World) : Prop := (I64 m.kind ∧ I64 m.src ∧ I64 m.dst ∧ I64 m.view ∧ I64 m.slot ∧ I64 m.till) ∧ m.signed.ok ∧ (m.statuses.rd 12 stC w ∧ ∀ s ∈ m.statuses.l, s.ok w) ∧
 (m.entries.rd 3 deC w ∧ ∀ d ∈ m.entries.l, d.ok w) ∧ m.snapshot.ok w ∧ m.texts.rd 1 strV w
theorem Sl.rd_below {α : Type} {k : Nat} {C : α → List Value} {s : Sl α} {w w' : World} (h : s.rd k C w) (hb : Below w.heap.size w w') : s.rd k C w' := Rd.below h hb
theorem St.below {s : St} {w w' : World} (h : s.ok w) (hb : Below w.heap.size w w') : s.ok w' := ⟨h.1, Sl.rd_below h.2.1 hb, h.2.2⟩
theorem De.below {s : De} {w w' : World} (h : s.ok w) (hb : Below w.heap.size w w') : s.ok w' := ⟨h.1, Sl.rd_below h.2.1 hb, h.2.2⟩
theorem Ho.below {s : Ho} {w w' : World} (h : s.ok w) (hb : Below w.heap.size w w') : s.ok w' := ⟨h.1, De.below h.2 hb⟩
theorem Sn.below {x : Sn} {w w' : World} (h : x.ok w) (hb : Below w.heap.size w w') : x.ok w' :=
 ⟨h.1, Sl.rd_below h.2.1 hb, ⟨Sl.rd_below h.2.2.1.1 hb, h.2.2.1.2⟩, Sl.rd_below h.2.2.2.1 hb, fun y hy => Ho.below (h.2.2.2.2 y hy) hb⟩
theorem Ms.below {m : Ms} {w w' : World} (h : m.ok w) (hb : Below w.heap.size w w') : m.ok w' :=
 ⟨h.1, h.2.1, ⟨Sl.rd_below h.2.2.1.1 hb, fun y hy => St.below (h.2.2.1.2 y hy) hb⟩, ⟨Sl.rd_below h.2.2.2.1.1 hb, fun y hy => De.below (h.2.2.2.1.2 y hy) hb⟩, Sn.below h.2.2.2.2.1 hb, Sl.rd_below h.2.2.2.2.2 hb⟩
/-! the sizes: no more than what the reading holds -/
def sum {α : Type} (f : α → Nat) (l : List α) : Nat := (l.map f).sum
theorem sum_cons {α : Type} (f : α → Nat) (x : α) (r : List α) : sum f (x :: r) = f x + sum f r := by simp [sum]
theorem sum_nil {α : Type} (f : α → Nat) : sum f [] = 0 := rfl
def Sg.sz (x : Sg) : Nat := x.digest.length + x.sig.length + 7
def szS (x : List UInt8) : Nat := x.length + 1
def St.sz (s : St) : Nat := s.lock.length + sum Sg.sz s.cert.l + s.signed.sz + 7
def De.sz (d : De) : Nat := d.value.length + sum Sg.sz d.cert.l + 4
def Ho.sz (h : Ho) : Nat := h.entry.sz + 2
def Sn.sz (x : Sn) : Nat := x.root.length + sum szS x.chunks.l + sum Sg.sz x.proof.l + sum Ho.sz x.chain.l + 6
def Ms.sz (m : Ms) : Nat := m.value.length + m.signed.sz + sum St.sz m.statuses.l + sum De.sz m.entries.l + m.snapshot.sz + sum szS m.texts.l + 11
def num (n : Int) : Bool := decide (0 ≤ n) && decide (n ≤ 2147483647)
def sgShort (x : Sg) : Bool := decide (x.digest.length ≤ 64) && decide (x.sig.length ≤ 64)
def certShort (l : List Sg) : Bool := l.all sgShort && decide (l.length ≤ 12)
def stRange (s : St) : Bool := decide (0 ≤ s.server) && decide (s.server < 12) && num s.view && num s.length && num s.lockView
def stShort (s : St) : Bool := decide (s.lock.length ≤ 2000) && certShort s.cert.l && sgShort s.signed
def deShort (d : De) : Bool := decide (d.value.length ≤ 2000) && certShort d.cert.l
def hoRange (h : Ho) : Bool := num h.slot && num h.entry.view
def rangesB (m : Ms) : Bool := m.statuses.l.all stRange && m.entries.l.all (fun d => num d.view) && m.snapshot.chain.l.all hoRange && num m.snapshot.slot
def headB (m : Ms) : Bool := decide (m.value.length ≤ 2000) && decide (m.statuses.l.length ≤ 12) && decide (m.entries.l.length ≤ 8) && decide (m.texts.l.length ≤ 500)
def rootB (m : Ms) : Bool := decide (m.snapshot.root.length ≤ 64) && decide (m.snapshot.chain.l.length ≤ 20)
def lengthsB (m : Ms) : Bool := headB m && rootB m && m.statuses.l.all stShort && m.entries.l.all deShort && m.snapshot.chain.l.all (fun h => deShort h.entry) && decide (tot m.texts.l ≤ 60000) && sgShort m.signed && certShort m.snapshot.proof.l
def emptySn (x : Sn) : Bool := decide (x.slot = 0) && decide (x.root = []) && decide (x.chunks.l.length + x.proof.l.length + x.chain.l.length = 0)
def sgZero (x : Sg) : Bool := decide (x = ⟨0, 0, 0, 0, [], []⟩)
def presL (m : Ms) : List Bool := [m.view != 0, m.slot != 0, m.till != 0, !m.value.isEmpty, !sgZero m.signed, decide (0 < m.statuses.l.length), decide (0 < m.entries.l.length), !emptySn m.snapshot, decide (0 < m.texts.l.length)]
def kwF (k : Int) : Nat := if k = 1 then 3 else if k = 2 then 99 else if k = 3 then 59 else if k = 4 then 19 else if k = 5 then 27 else if k = 6 then 66 else if k = 7 then 2 else if k = 8 then 1 else if k = 9 then 5 else if k = 10 then 26 else if k = 11 then 132 else if k = 12 then 271 else 0
def kwS (k : Int) : List UInt8 := if k = 1 then [97, 115, 107] else if k = 2 then [115, 116, 97, 116, 117, 115] else if k = 3 then [112, 114, 111, 112, 111, 115, 101] else if k = 4 then [112, 114, 101, 112, 97, 114, 101] else if k = 5 then [99, 111, 109, 109, 105, 116] else if k = 6 then [108, 101, 97, 114, 110] else if k = 7 then [102, 101, 116, 99, 104] else if k = 8 then [108, 101, 97, 115, 101] else if k = 9 then [103, 114, 97, 110, 116] else if k = 10 then [115, 116, 97, 98, 108, 101] else if k = 11 then [115, 110, 97, 112, 115, 104, 111, 116] else if k = 12 then [99, 104, 117, 110, 107] else []
def alw (k : Int) (i : Nat) : Bool := (kwF k).testBit i
def spareB (m : Ms) : Bool := (presL m).zipIdx.any fun x => x.1 && !alw m.kind x.2
def partB (m : Ms) : Bool := decide (m.src < 0) || decide (12 ≤ m.src) || decide (m.dst < 0) || decide (18 ≤ m.dst) || !num m.view || !num m.slot || decide (m.till < 0)
def oneB (m : Ms) : Bool := decide (m.kind = 2) && decide (m.statuses.l.length ≠ 1)
def vMs (m : Ms) : Int :=
 if m.kind < 1 ∨ 12 < m.kind then 1 else if partB m = true then 7 else if spareB m = true ∨ oneB m = true then 1
 else if rangesB m = false then 7 else if lengthsB m = false then 3 else if 0 < m.snapshot.chunks.l.length then 1 else 0
end Go.Proofs.YtikpcebhcnjkhaaGreatDoor
