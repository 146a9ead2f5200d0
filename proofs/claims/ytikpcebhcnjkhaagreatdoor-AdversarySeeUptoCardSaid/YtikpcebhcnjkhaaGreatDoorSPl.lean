/- Short forms of the steps of a region that draws its order. -/
import Derived.Deep.RegionHeld
import Derived.Tactics
import Derived.Lib.Hide
import Derived.Below
import Derived.Lib.Strings
import Derived.Lib.UnsafeStr
import Derived.Deep.Draws
import Derived.OwnWalk
namespace Go.Proofs.YtikpcebhcnjkhaaGreatDoor
open Go.RowKit
section
variable {P : Program} {md : Region.Mode} {ops : Array Oper} {Q : Exit → Act → World → Prop} {S : World → Prop} {oi : Oper} {v : Value} {fuel : Nat} {listed : Array Bool} {a : Act} {w : World}
theorem tkq (i : Nat) (hi : ops[i]? = some oi) (hy : YieldsIf P ops S oi v a) (hS : S w) (h : wpAnyH P md ops Q S fuel (listed.setIfInBounds i true) (a.put oi.dst v) w)
    (hs : Region.noSelect ops = true := by kernel_rfl) (hf : Region.free md ops listed i = true := by kernel_rfl) (hr : (Region.ready md ops listed).contains i = true := by kernel_rfl)
    (hQ : ∀ c a w, Q (.panic c) (a.put oi.dst v) w → Q (.panic c) a w := by exact fun _ _ _ h => h) : wpAnyH P md ops Q S (fuel + 1) listed a w := wpAnyH_take hi hs hf hr hQ hy hS h
theorem tkr (i : Nat) {o : Oper} (ho : ops[i]? = some o)
    (h : ∀ K' : Act → World → Prop, Shut (∀ a w, S w → (S w → wpAnyH P md ops Q S fuel (listed.setIfInBounds i true) a w) → K' a w) → if Region.wanted o (yielded ops a.tmps) = true then Oper.wp P o a w K' Q else K' (a.put o.dst undef) w)
    (hr : Region.ready md ops listed = [i] := by kernel_rfl) : wpAnyH P md ops Q S (fuel + 1) listed a w := wpAnyH_ready hr (by simp) (AllReadyH.cons ho h AllReadyH.nil)
end
theorem hD {p : Prop} (h : p) : Hid p := Lib.hid h
theorem qk1 {α : Type} {l : List α} {i : Nat} {a : α} : l.toArray.setIfInBounds i a = (l.set i a).toArray := List.setIfInBounds_toArray _ _ _
theorem qk2 {α : Type} {a b : α} {l : List α} : (a :: l).set 0 b = b :: l := List.set_cons_zero
theorem qk3 {α : Type} {a b : α} {l : List α} {n : Nat} : (a :: l).set (n + 1) b = a :: l.set n b := List.set_cons_succ
theorem qk4 {α : Type} {l : List α} {i : Nat} (h : i < l.toArray.size) : l.toArray[i] = l[i]'(by simpa using h) := List.getElem_toArray h
theorem qk5 {α : Type} {a : α} {l : List α} {i : Nat} (h : i + 1 < (a :: l).length) : (a :: l)[i + 1] = l[i]'(Nat.lt_of_succ_lt_succ h) := List.getElem_cons_succ ..
theorem qk6 {α : Type} {a : α} {l : List α} (h : 0 < (a :: l).length) : (a :: l)[0] = a := rfl
theorem qd1 {α : Type} {a : α} {l : List α} {i : Nat} : (a :: l).drop (i + 1) = l.drop i := List.drop_succ_cons
theorem qd2 {α : Type} {l : List α} : l.drop 0 = l := List.drop_zero
theorem qd3 {α : Type} {a : α} {as : List α} {i : Nat} : (a :: as).take (i + 1) = a :: as.take i := List.take_succ_cons
theorem qd4 {α : Type} {l : List α} : l.take 0 = [] := List.take_zero
theorem qd5 {α : Type} {a : α} {l : List α} {i : Nat} : (a :: l)[i + 1]? = l[i]? := List.getElem?_cons_succ
theorem qd6 {α : Type} {a : α} {l : List α} : (a :: l)[0]? = some a := List.getElem?_cons_zero
theorem qk : (∀ {α : Type} {l : List α} {i : Nat} {a : α}, l.toArray.setIfInBounds i a = (l.set i a).toArray) ∧ (∀ {α : Type} {a b : α} {l : List α}, (a :: l).set 0 b = b :: l) ∧ (∀ {α : Type} {a b : α} {l : List α} {n : Nat}, (a :: l).set (n + 1) b = a :: l.set n b) ∧
    (∀ {α : Type} {l : List α} {i : Nat} (h : i < l.toArray.size), l.toArray[i] = l[i]'(by simpa using h)) ∧ (∀ {α : Type} {a : α} {l : List α} {i : Nat} (h : i + 1 < (a :: l).length), (a :: l)[i + 1] = l[i]'(Nat.lt_of_succ_lt_succ h)) ∧ (∀ {α : Type} {a : α} {l : List α} (h : 0 < (a :: l).length), (a :: l)[0] = a) :=
 ⟨List.setIfInBounds_toArray _ _ _, List.set_cons_zero, List.set_cons_succ, List.getElem_toArray, fun _ => List.getElem_cons_succ .., fun _ => rfl⟩
/-- Operations taken first, one after the other. -/
def Takes (P : Program) (ops : Array Oper) (S : World → Prop) : List Nat → Act → Act → Prop
 | [], a, b => a = b
 | i :: is, a, b => ∃ oi v, ops[i]? = some oi ∧ YieldsIf P ops S oi v a ∧ Takes P ops S is (a.put oi.dst v) b
def tkOk (md : Region.Mode) (ops : Array Oper) : List Nat → Array Bool → Nat → Bool
 | [], _, _ => true
 | _ :: _, _, 0 => false
 | i :: is, l, n + 1 => Region.free md ops l i && (Region.ready md ops l).contains i && tkOk md ops is (l.setIfInBounds i true) n
def tkL : List Nat → Array Bool → Array Bool
 | [], l => l
 | i :: is, l => tkL is (l.setIfInBounds i true)
section
variable {P : Program} {md : Region.Mode} {ops : Array Oper} {Q : Exit → Act → World → Prop} {S : World → Prop} {oi : Oper} {v : Value} {is : List Nat} {i : Nat} {a b : Act} {w : World}
theorem tkn : Takes P ops S [] a a := rfl
theorem tkl (hi : ops[i]? = some oi) (hw : Region.wanted oi (yielded ops a.tmps) = true) (hv : ∀ W, S W → (execOp a.eval oi).run P W = .ok (.value v) W) (h : Takes P ops S is (a.put oi.dst v) b) : Takes P ops S (i :: is) a b :=
 ⟨oi, v, hi, .inl ⟨hw, hv⟩, h⟩
theorem tks (hi : ops[i]? = some oi) (hw : Region.wanted oi (yielded ops a.tmps) = false) (h : Takes P ops S is (a.put oi.dst undef) b) : Takes P ops S (i :: is) a b :=
 ⟨oi, undef, hi, .inr ⟨hw, rfl⟩, h⟩
theorem takes_go (hs : Region.noSelect ops = true) (hQ : ∀ c a t v w, Q (.panic c) (a.put t v) w → Q (.panic c) a w) (hS : S w) :
    ∀ (is : List Nat) (fuel : Nat) (listed : Array Bool) (a b : Act), tkOk md ops is listed fuel = true → Takes P ops S is a b → wpAnyH P md ops Q S (fuel - is.length) (tkL is listed) b w → wpAnyH P md ops Q S fuel listed a w
 | [], _, _, _, _, _, ht, h => by cases ht; exact h
 | _ :: _, 0, _, _, _, hc, _, _ => by cases hc
 | i :: is, n + 1, l, a, b, hc, ⟨oi, v, hi, hy, ht⟩, h => by
  simp only [tkOk, Bool.and_eq_true] at hc
  exact wpAnyH_take hi hs hc.1.1 hc.1.2 (fun c a w => hQ c a oi.dst v w) hy hS (takes_go hs hQ hS is n _ _ b hc.2 ht (by simpa [tkL] using h))
/-- The operations IS are taken first: loads and moves that the condition S decides, or that are skipped. -/
theorem takes (is : List Nat) {fuel : Nat} {listed : Array Bool} (h : wpAnyH P md ops Q S (fuel - is.length) (tkL is listed) b w)
    (ht : Takes P ops S is a b := by
     repeat (first
      | exact tkn
      | (apply tkl
         exact rfl
         exact rfl
         (intro W h; (try dsimp only at h); go_simp; (try with_reducible rfl))
         try simp only [Act.put,qk])
      | (apply tks
         exact rfl
         exact rfl
         try simp only [Act.put,qk])))
    (hS : S w := by assumption) (hc : tkOk md ops is listed fuel = true := by kernel_rfl) (hs : Region.noSelect ops = true := by kernel_rfl)
    (hQ : ∀ c a t v w, Q (.panic c) (a.put t v) w → Q (.panic c) a w := by (intro c a t v w h; cases t <;> exact h)) : wpAnyH P md ops Q S fuel listed a w := takes_go hs hQ hS is fuel listed a b hc ht h
end
open Go.RowKit
theorem ret_bool {a b : Bool} (h : a = b) : Ending.returned (.bool a) = .returned (.bool b) := by rw [h]
theorem ret_int {k : IntKind} {a b : Int} (h : a = b) : Ending.returned (.int k a) = .returned (.int k b) := by rw [h]
theorem len_data (t : ByteArray) : t.data.toList.length = t.size := by simp
theorem str_cat (a b : List UInt8) : ByteArray.mk a.toArray ++ ByteArray.mk b.toArray = ByteArray.mk (a ++ b).toArray := by
 apply ByteArray.ext
 simp
theorem str_mk (b : ByteArray) : ByteArray.mk b.data.toList.toArray = b := by
 apply ByteArray.ext
 simp
theorem size_mk (l : List UInt8) : (ByteArray.mk l.toArray).size = l.length := by simp [ByteArray.size]
theorem size_cat (a b : List UInt8) : (ByteArray.mk a.toArray ++ ByteArray.mk b.toArray).size = a.length + b.length := by
 rw [str_cat, size_mk]; simp
theorem byte_lt (c : UInt8) : c.toNat < 256 := c.toNat_lt
theorem drop_at (s : ByteArray) (i : Nat) (h : i < s.size) : s.data.toList.drop i = s[i] :: s.data.toList.drop (i + 1) := by
 have h' : i < s.data.toList.length := by simpa using h
 exact List.drop_eq_getElem_cons h'
theorem ext_mid (s : ByteArray) (a b : Nat) : s.extract a b = ⟨((s.data.toList.drop a).take (b - a)).toArray⟩ := by
 apply ByteArray.ext
 apply Array.toList_inj.1
 rw [Lib.extract_data]
theorem byteCells_snoc (l : List UInt8) (c : Int) (h0 : 0 ≤ c) (h1 : c < 256) : Lib.byteCells l ++ [.int .u8 c] = Lib.byteCells (l ++ [c.toNat.toUInt8]) := by
 obtain ⟨n, rfl⟩ := Int.eq_ofNat_of_zero_le h0
 have : n % 256 = n := Nat.mod_eq_of_lt (by omega)
 simp [Lib.byteCells, this]
structure Rd (w : World) (k : Nat) (A : Option Addr) (n : Nat) (xs : List Value) : Prop where
 len : xs.length = n * k
 cells : 0 < xs.length → ∃ b o, A = some ⟨b, o, none⟩ ∧ b < w.heap.size ∧ ∀ j u, xs[j]? = some u → w.cell? ⟨b, o + j, none⟩ = some u
theorem Rd.below {w w' : World} {k n : Nat} {A : Option Addr} {xs : List Value} (h : Rd w k A n xs) (hb : Below w.heap.size w w') : Rd w' k A n xs :=
 ⟨h.len, fun hj => by
  obtain ⟨b, o, e, hl, hc⟩ := h.cells hj
  exact ⟨b, o, e, Nat.lt_of_lt_of_le hl hb.size, fun j u hu => (hb.cell (p := ⟨b, o + j, none⟩) hl).trans (hc j u hu)⟩⟩
theorem add_off (g j : Nat) : (⟨g, 0, none⟩ : Addr).add j = ⟨g, 0 + j, none⟩ := by unfold Addr.add; split <;> simp_all
theorem add_plain' (b o j : Nat) : (⟨b, o, none⟩ : Addr).add j = ⟨b, o + j, none⟩ := by unfold Addr.add; split <;> simp_all
theorem Rd.own {w : World} {base e k n : Nat} {A : Option Addr} {c : Nat} {xs : List Value} (h : w.ownsRow base e k (.slice A n c) n xs) : Rd w k A n xs := by
 refine ⟨h.1, fun hj => ?_⟩
 rcases h.2 with ⟨h1, h2⟩ | ⟨g, cap, cur, hv, _, hg, _⟩
 · have := h.1; subst h2; simp at this; subst this; simp at hj
 · injection hv with h1 h2 h3
   subst h1
   have hlt := (h.lt g rfl).2
   exact ⟨g, 0, rfl, hlt, fun j u hu => by rw [← add_off]; exact h.cells rfl j u hu⟩
theorem Rd.nil (w : World) (k : Nat) (A : Option Addr) : Rd w k A 0 [] := ⟨by simp, fun hj => by simp at hj⟩
theorem ownsRow_form {w : World} {base e k n : Nat} {v : Value} {xs : List Value} (h : w.ownsRow base e k v n xs) : ∃ A c, v = .slice A n c := by
 rcases h.2 with ⟨h1, h2⟩ | ⟨g, cap, cur, hv, _⟩
 · exact ⟨none, 0, by rw [h1, h2]⟩
 · exact ⟨_, _, hv⟩
theorem ownsRow_below {w w' : World} {base e k n : Nat} {v : Value} {xs : List Value} (h : w.ownsRow base e k v n xs) (hb : Below w.heap.size w w') : w'.ownsRow base e k v n xs := by
 refine ⟨h.1, ?_⟩
 rcases h.2 with h1 | ⟨g, cap, cur, hv, hge, hg, rest⟩
 · exact .inl h1
 · have hlt : g < w.heap.size := (h.lt g (by rw [hv]; rfl)).2
   exact .inr ⟨g, cap, cur, hv, hge, (hb.block g hlt).trans hg, rest⟩
theorem ownsRow_base {w : World} {base base' e k n : Nat} {v : Value} {xs : List Value} (h : w.ownsRow base e k v n xs) (hb : base' ≤ base) : w.ownsRow base' e k v n xs := by
 refine ⟨h.1, ?_⟩
 rcases h.2 with h1 | ⟨g, cap, cur, hv, hge, rest⟩
 · exact .inl h1
 · exact .inr ⟨g, cap, cur, hv, by omega, rest⟩
theorem below_grown {B : Nat} {a w w' : World} {row : Option Nat} (h : Below B a w) (hB : B ≤ w.heap.size) (hg : w.grownBy w' row) (hr : ∀ g, row = some g → B ≤ g) : Below B a w' :=
 h.trans ⟨hg.os, hg.tape, hg.output, hg.size, fun k hk => hg.block k (by omega) (fun e => by have := hr k e.symm; omega)⟩
theorem bdN {B : Nat} {a w : World} (h : Below B a w) (n : Nat) : Below B a (w.drewN n) := h.trans ⟨rfl, rfl, rfl, Nat.le_refl _, fun _ _ => rfl⟩
theorem below_new (w : World) (o : Obj) : Below w.heap.size w (w.alloc o) := (Below.refl _ _).alloc (Nat.le_refl _) _
theorem bon {w w1 w2 : World} (h : Below w.heap.size w w1) (k : Below w1.heap.size w1 w2) : Below w.heap.size w w2 := h.trans (k.mono h.size)
theorem cell_new (W : World) (cs : List Value) (T : TypeId) (b : Nat) (hb : b = W.heap.size) : ∀ j u, cs[j]? = some u → (W.alloc (.cells cs.toArray T)).cell? ((⟨b, 0, none⟩ : Addr).add j) = some u := by
 intro j u h
 subst hb
 rw [show ((⟨W.heap.size, 0, none⟩ : Addr).add j) = ⟨W.heap.size, j, none⟩ from by unfold Addr.add; split <;> simp_all]
 have h1 : (W.alloc (.cells cs.toArray T)).heap[W.heap.size]? = some (.cells cs.toArray T) := by
  show (W.heap.push _)[W.heap.size]? = _
  simp
 simp only [World.cell?]
 rw [h1]
 simpa using h
theorem rd_new (w : World) (k n : Nat) (cs : List Value) (T : TypeId) (h : cs.length = n * k) : Rd (w.alloc (.cells cs.toArray T)) k (some ⟨w.heap.size, 0, none⟩) n cs :=
 ⟨h, fun _ => ⟨w.heap.size, 0, rfl, by simp, fun j u hu => by rw [← add_off]; exact cell_new w cs T _ rfl j u hu⟩⟩
def strC (l : List (List UInt8)) : List Value := l.map fun x => .string ⟨x.toArray⟩
theorem strC_snoc (l : List (List UInt8)) (x : List UInt8) : strC (l ++ [x]) = strC l ++ [.string ⟨x.toArray⟩] := by simp [strC]
theorem strC_len (l : List (List UInt8)) : (strC l).length = l.length := by simp [strC]
def intC (l : List Int) : List Value := l.map fun x => .int .i64 x
theorem intC_len (l : List Int) : (intC l).length = l.length := by simp [intC]
theorem flat_get {α : Type} (C : α → List Value) (m : Nat) (hC : ∀ x, (C x).length = m) (l : List α) (k : Nat) (hk : k < l.length) (j : Nat) (hj : j < m) : (l.flatMap C)[k * m + j]? = (C l[k])[j]? := by
 induction l generalizing k with
 | nil => simp at hk
 | cons x r ih =>
  cases k with
  | zero => simp only [List.flatMap_cons, Nat.zero_mul, Nat.zero_add, List.getElem_cons_zero]; rw [List.getElem?_append_left (by rw [hC]; exact hj)]
  | succ k =>
   have := ih k (by simpa using hk)
   simp only [List.flatMap_cons, List.getElem_cons_succ]
   rw [List.getElem?_append_right (by rw [hC, Nat.succ_mul]; omega), hC, show (k + 1) * m + j - m = k * m + j from by rw [Nat.succ_mul]; omega, this]
theorem flat_len {α : Type} (C : α → List Value) (m : Nat) (hC : ∀ x, (C x).length = m) (l : List α) : (l.flatMap C).length = l.length * m := by
 induction l with
 | nil => simp
 | cons x r ih => simp only [List.flatMap_cons, List.length_append, List.length_cons] at ih ⊢; rw [ih, hC, Nat.succ_mul]; omega
theorem Rd.at {α : Type} {w : World} {m : Nat} {A : Option Addr} {l : List α} {C : α → List Value} (h : Rd w m A l.length (l.flatMap C)) (hC : ∀ x, (C x).length = m) (hm : 0 < m) {k : Nat} (hk : k < l.length) :
    ∃ b o, A = some ⟨b, o, none⟩ ∧ b < w.heap.size ∧ ∀ w', Below w.heap.size w w' → ∀ j v, (C l[k])[j]? = some v → w'.cell? ⟨b, o + k * m + j, none⟩ = some v := by
 have hp : 0 < l.length * m := Nat.mul_pos (by omega) hm
 obtain ⟨b, o, rfl, hb, hc⟩ := h.cells (by rw [flat_len C m hC]; exact hp)
 refine ⟨b, o, rfl, hb, fun w' hw j v hv => ?_⟩
 rw [hw.cell (p := ⟨b, o + k * m + j, none⟩) hb]
 have hj : j < m := by
  have := (List.getElem?_eq_some_iff.1 hv).1
  rwa [hC] at this
 have := hc (k * m + j) v (by rw [flat_get C m hC l k hk j hj]; exact hv)
 rwa [← Nat.add_assoc] at this
def RetStrs (l : List (List UInt8)) (w : World) (e : Ending) (w' : World) : Prop :=
 ∃ A c, e = .returned (.slice A l.length c) ∧ Rd w' 1 A l.length (strC l) ∧ Below w.heap.size w w'
theorem ret_strs {l : List (List UInt8)} {w w' : World} {n : Nat} (A : Option Addr) (c : Nat) (xs : List (List UInt8)) (h : l = xs) (hn : n = xs.length) (hr : Rd w' 1 A n (strC xs)) (hb : Below w.heap.size w w') :
    RetStrs l w (.returned (.slice A n c)) w' := by
 subst h hn
 exact ⟨A, c, rfl, hr, hb⟩
def RetStr (l : List UInt8) (w : World) (e : Ending) (w' : World) : Prop := e = .returned (.string ⟨l.toArray⟩) ∧ Below w.heap.size w w'
theorem ret_st {l l' : List UInt8} {w w' : World} (h : l = l') (hb : Below w.heap.size w w') : RetStr l w (.returned (.string ⟨l'.toArray⟩)) w' := ⟨by rw [h], hb⟩
def varint (n : Nat) : List UInt8 := if n < 128 then [n.toUInt8] else (128 + n % 128).toUInt8 :: varint (n / 128)
termination_by n
decreasing_by omega
theorem varint_small (n : Nat) (h : n < 128) : varint n = [n.toUInt8] := by rw [varint, if_pos h]
theorem varint_big (n : Nat) (h : ¬ n < 128) : varint n = (128 + n % 128).toUInt8 :: varint (n / 128) := by rw [varint, if_neg h]
theorem varint_len : ∀ (k n : Nat), n < 128 ^ (k + 1) → (varint n).length ≤ k + 1
 | 0, n, h => by rw [varint_small n (by simpa using h)]; simp
 | k + 1, n, h => by
  by_cases hn : n < 128
  · rw [varint_small n hn]; simp
  · rw [varint_big n hn]
    have := varint_len k (n / 128) (by rw [Nat.div_lt_iff_lt_mul (by omega)]; rw [Nat.pow_succ] at h; omega)
    simp only [List.length_cons]
    omega
theorem varint_ten (n : Nat) (h : n < 18446744073709551616) : (varint n).length ≤ 10 := varint_len 9 n (by omega)
theorem varint_pos (n : Nat) : 1 ≤ (varint n).length := by
 by_cases h : n < 128
 · rw [varint_small n h]; simp
 · rw [varint_big n h]; simp
def zig (n : Int) : Nat := if 0 ≤ n then (2 * n).toNat else (-2 * n - 1).toNat
theorem zig_lt (n : Int) (h0 : -9223372036854775808 ≤ n) (h1 : n ≤ 9223372036854775807) : zig n < 18446744073709551616 := by
 unfold zig; split <;> omega
def I64 (n : Int) : Prop := -9223372036854775808 ≤ n ∧ n ≤ 9223372036854775807
def putStr (s : List UInt8) : List UInt8 := varint s.length ++ s
def putList (l : List (List UInt8)) : List UInt8 := varint l.length ++ l.flatMap putStr
def putInts (l : List Int) : List UInt8 := varint l.length ++ l.flatMap fun n => varint (zig n)
def tot (ls : List (List UInt8)) : Nat := (ls.map List.length).sum
theorem tot_cons (x : List UInt8) (r : List (List UInt8)) : tot (x :: r) = x.length + tot r := by simp [tot]
theorem tot_snoc (ls : List (List UInt8)) (x : List UInt8) : tot (ls ++ [x]) = tot ls + x.length := by simp [tot]
theorem tot_take (ls : List (List UInt8)) (k : Nat) : tot (ls.take k) ≤ tot ls := by
 induction ls generalizing k with
 | nil => simp
 | cons x r ih =>
  cases k with
  | zero => simp [tot]
  | succ k => have := ih k; rw [List.take_succ_cons, tot_cons, tot_cons]; omega
theorem tot_get (ls : List (List UInt8)) (k : Nat) (h : k < ls.length) : ls[k].length ≤ tot ls := by
 have := tot_take ls (k + 1)
 rw [List.take_succ_eq_append_getElem h, tot_snoc] at this
 omega
theorem putStr_len (s : List UInt8) (h : s.length < 18446744073709551616) : (putStr s).length ≤ 10 + s.length := by
 have := varint_ten s.length h
 simp only [putStr, List.length_append]; omega
theorem strs_len (l : List (List UInt8)) (h : tot l < 18446744073709551616) : (l.flatMap putStr).length ≤ 10 * l.length + tot l := by
 induction l with
 | nil => simp
 | cons x r ih =>
  rw [tot_cons] at h ⊢
  have h1 := putStr_len x (by omega)
  have h2 := ih (by omega)
  simp only [List.flatMap_cons, List.length_append, List.length_cons] at h2 ⊢
  omega
theorem putList_len (l : List (List UInt8)) (h : tot l < 18446744073709551616) (h2 : l.length < 18446744073709551616) : (putList l).length ≤ 10 + 10 * l.length + tot l := by
 have h1 := strs_len l h
 have h3 := varint_ten l.length h2
 simp only [putList, List.length_append]; omega
theorem ints_len (l : List Int) (h : ∀ n ∈ l, I64 n) : (l.flatMap fun n => varint (zig n)).length ≤ 10 * l.length := by
 induction l with
 | nil => simp
 | cons x r ih =>
  have h1 := varint_ten (zig x) (zig_lt x (h x (by simp)).1 (h x (by simp)).2)
  have h2 := ih (fun n hn => h n (by simp [hn]))
  simp only [List.flatMap_cons, List.length_append, List.length_cons] at h2 ⊢
  omega
theorem putInts_len (l : List Int) (h : ∀ n ∈ l, I64 n) (h2 : l.length < 18446744073709551616) : (putInts l).length ≤ 10 + 10 * l.length := by
 have h1 := ints_len l h
 have h3 := varint_ten l.length h2
 simp only [putInts, List.length_append]; omega
open Go.RowKit
structure Sl (α : Type) where
 a : Option Addr
 c : Nat
 l : List α
def Sl.v {α : Type} (s : Sl α) : Value := .slice s.a s.l.length s.c
def Sl.nil {α : Type} : Sl α := ⟨none, 0, []⟩
structure Sg where
 (server kind view slot : Int) (digest sig : List UInt8)
 deriving DecidableEq
structure St where
 (server view length lockView : Int) (lock : List UInt8) (cert : Sl Sg) (signed : Sg)
structure De where
 (view : Int) (value : List UInt8) (cert : Sl Sg)
structure Ho where
 (slot : Int) (entry : De)
structure Sn where
 (slot : Int) (root : List UInt8) (chunks : Sl (List UInt8)) (proof : Sl Sg) (chain : Sl Ho)
structure Ms where
 (kind src dst view slot : Int) (value : List UInt8) (till : Int) (signed : Sg) (statuses : Sl St) (entries : Sl De) (snapshot : Sn) (texts : Sl (List UInt8))
/-! the encodings -/
def contSg (x : Sg) : List UInt8 := putInts [x.server, x.kind, x.view, x.slot] ++ putStr x.digest
def encSg (x : Sg) : List UInt8 := contSg x ++ putStr x.sig
def encSt (s : St) : List UInt8 := putInts [s.server, s.view, s.length, s.lockView] ++ putStr s.lock ++ putList (s.cert.l.map encSg) ++ putStr (encSg s.signed)
def encDe (d : De) : List UInt8 := putInts [d.view] ++ putStr d.value ++ putList (d.cert.l.map encSg)
def encHo (h : Ho) : List UInt8 := putInts [h.slot] ++ encDe h.entry
def encSn (x : Sn) : List UInt8 := putInts [x.slot] ++ putStr x.root ++ putList x.chunks.l ++ putList (x.proof.l.map encSg) ++ putList (x.chain.l.map encHo)
def encMs (m : Ms) : List UInt8 := putInts [m.kind, m.src, m.dst, m.view, m.slot, m.till] ++ putStr m.value ++ putStr (encSg m.signed) ++ putList (m.statuses.l.map encSt) ++ putList (m.entries.l.map encDe) ++ putStr (encSn m.snapshot) ++ putList m.texts.l
/-! the cells -/
def sgC (x : Sg) : List Value := [.int .i64 x.server, .int .i64 x.kind, .int .i64 x.view, .int .i64 x.slot, .string ⟨x.digest.toArray⟩, .string ⟨x.sig.toArray⟩]
def stC (s : St) : List Value := [.int .i64 s.server, .int .i64 s.view, .int .i64 s.length, .int .i64 s.lockView, .string ⟨s.lock.toArray⟩, s.cert.v,
 .int .i64 s.signed.server, .int .i64 s.signed.kind, .int .i64 s.signed.view, .int .i64 s.signed.slot, .string ⟨s.signed.digest.toArray⟩, .string ⟨s.signed.sig.toArray⟩]
def deC (d : De) : List Value := [.int .i64 d.view, .string ⟨d.value.toArray⟩, d.cert.v]
def hoC (h : Ho) : List Value := [.int .i64 h.slot, .int .i64 h.entry.view, .string ⟨h.entry.value.toArray⟩, h.entry.cert.v]
def snC (x : Sn) : List Value := [.int .i64 x.slot, .string ⟨x.root.toArray⟩, x.chunks.v, x.proof.v, x.chain.v]
def msC (m : Ms) : List Value := [.int .i64 m.kind, .int .i64 m.src, .int .i64 m.dst, .int .i64 m.view, .int .i64 m.slot, .string ⟨m.value.toArray⟩, .int .i64 m.till,
 .int .i64 m.signed.server, .int .i64 m.signed.kind, .int .i64 m.signed.view, .int .i64 m.signed.slot, .string ⟨m.signed.digest.toArray⟩, .string ⟨m.signed.sig.toArray⟩,
 m.statuses.v, m.entries.v, .int .i64 m.snapshot.slot, .string ⟨m.snapshot.root.toArray⟩, m.snapshot.chunks.v, m.snapshot.proof.v, m.snapshot.chain.v, m.texts.v]
def strV (x : List UInt8) : List Value := [.string ⟨x.toArray⟩]
/-! what stands in memory, and the ranges -/
def Sl.rd {α : Type} (k : Nat) (C : α → List Value) (s : Sl α) (w : World) : Prop := Rd w k s.a s.l.length (s.l.flatMap C)
def Sg.ok (x : Sg) : Prop := I64 x.server ∧ I64 x.kind ∧ I64 x.view ∧ I64 x.slot
def St.ok (s : St) (w : World) : Prop := (I64 s.server ∧ I64 s.view ∧ I64 s.length ∧ I64 s.lockView) ∧ s.cert.rd 6 sgC w ∧ (∀ x ∈ s.cert.l, x.ok) ∧ s.signed.ok
def De.ok (d : De) (w : World) : Prop := I64 d.view ∧ d.cert.rd 6 sgC w ∧ ∀ x ∈ d.cert.l, x.ok
def Ho.ok (h : Ho) (w : World) : Prop := I64 h.slot ∧ h.entry.ok w
def Sn.ok (x : Sn) (w : World) : Prop := I64 x.slot ∧ x.chunks.rd 1 strV w ∧ (x.proof.rd 6 sgC w ∧ ∀ y ∈ x.proof.l, y.ok) ∧ x.chain.rd 4 hoC w ∧ ∀ h ∈ x.chain.l, h.ok w
def Ms.ok (m : Ms) (w : World) : Prop := (I64 m.kind ∧ I64 m.src ∧ I64 m.dst ∧ I64 m.view ∧ I64 m.slot ∧ I64 m.till) ∧ m.signed.ok ∧ (m.statuses.rd 12 stC w ∧ ∀ s ∈ m.statuses.l, s.ok w) ∧
 (m.entries.rd 3 deC w ∧ ∀ d ∈ m.entries.l, d.ok w) ∧ m.snapshot.ok w ∧ m.texts.rd 1 strV w
theorem Sl.rd_below {α : Type} {k : Nat} {C : α → List Value} {s : Sl α} {w w' : World} (h : s.rd k C w) (hb : Below w.heap.size w w') : s.rd k C w' := Rd.below h hb
theorem St.below {s : St} {w w' : World} (h : s.ok w) (hb : Below w.heap.size w w') : s.ok w' := ⟨h.1, Sl.rd_below h.2.1 hb, h.2.2⟩
theorem De.below {s : De} {w w' : World} (h : s.ok w) (hb : Below w.heap.size w w') : s.ok w' := ⟨h.1, Sl.rd_below h.2.1 hb, h.2.2⟩
theorem Ho.below {s : Ho} {w w' : World} (h : s.ok w) (hb : Below w.heap.size w w') : s.ok w' := ⟨h.1, De.below h.2 hb⟩
theorem Sn.below {x : Sn} {w w' : World} (h : x.ok w) (hb : Below w.heap.size w w') : x.ok w' :=
 ⟨h.1, Sl.rd_below h.2.1 hb, ⟨Sl.rd_below h.2.2.1.1 hb, h.2.2.1.2⟩, Sl.rd_below h.2.2.2.1 hb, fun y hy => Ho.below (h.2.2.2.2 y hy) hb⟩
theorem Ms.below {m : Ms} {w w' : World} (h : m.ok w) (hb : Below w.heap.size w w') : m.ok w' :=
 ⟨h.1, h.2.1, ⟨Sl.rd_below h.2.2.1.1 hb, fun y hy => St.below (h.2.2.1.2 y hy) hb⟩, ⟨Sl.rd_below h.2.2.2.1.1 hb, fun y hy => De.below (h.2.2.2.1.2 y hy) hb⟩, Sn.below h.2.2.2.2.1 hb, Sl.rd_below h.2.2.2.2.2 hb⟩
theorem strV_strC (l : List (List UInt8)) : l.flatMap strV = strC l := by
 induction l with
 | nil => rfl
 | cons x r ih => simp only [List.flatMap_cons, strV, strC, List.map_cons, List.cons_append, List.nil_append] at ih ⊢; rw [ih]
/-! the sizes: no more than what the reading holds -/
def sum {α : Type} (f : α → Nat) (l : List α) : Nat := (l.map f).sum
theorem sum_cons {α : Type} (f : α → Nat) (x : α) (r : List α) : sum f (x :: r) = f x + sum f r := by simp [sum]
theorem sum_nil {α : Type} (f : α → Nat) : sum f [] = 0 := rfl
theorem sum_get {α : Type} (f : α → Nat) (l : List α) (x : α) (h : x ∈ l) : f x ≤ sum f l := by
 induction l with
 | nil => simp at h
 | cons y r ih =>
  rw [sum_cons]
  rcases List.mem_cons.1 h with rfl | h
  · omega
  · have := ih h; omega
theorem sum_ge {α : Type} (f : α → Nat) (l : List α) (k : Nat) (h : ∀ x, k ≤ f x) : k * l.length ≤ sum f l := by
 induction l with
 | nil => simp
 | cons y r ih => rw [sum_cons, List.length_cons, Nat.mul_succ]; have := h y; omega
def Sg.sz (x : Sg) : Nat := x.digest.length + x.sig.length + 7
def szS (x : List UInt8) : Nat := x.length + 1
def St.sz (s : St) : Nat := s.lock.length + sum Sg.sz s.cert.l + s.signed.sz + 7
def De.sz (d : De) : Nat := d.value.length + sum Sg.sz d.cert.l + 4
def Ho.sz (h : Ho) : Nat := h.entry.sz + 2
def Sn.sz (x : Sn) : Nat := x.root.length + sum szS x.chunks.l + sum Sg.sz x.proof.l + sum Ho.sz x.chain.l + 6
def Ms.sz (m : Ms) : Nat := m.value.length + m.signed.sz + sum St.sz m.statuses.l + sum De.sz m.entries.l + m.snapshot.sz + sum szS m.texts.l + 11
theorem Sg.sz_ge (x : Sg) : 7 ≤ x.sz := by unfold Sg.sz; omega
theorem szS_ge (x : List UInt8) : 1 ≤ szS x := by unfold szS; omega
theorem St.sz_ge (x : St) : 14 ≤ x.sz := by have := x.signed.sz_ge; unfold St.sz; omega
theorem De.sz_ge (x : De) : 4 ≤ x.sz := by unfold De.sz; omega
theorem Ho.sz_ge (x : Ho) : 6 ≤ x.sz := by have := x.entry.sz_ge; unfold Ho.sz; omega
theorem tot_map {α : Type} (enc : α → List UInt8) (f : α → Nat) (c : Nat) (l : List α) (h : ∀ x ∈ l, (enc x).length ≤ c * f x) : tot (l.map enc) ≤ c * sum f l := by
 induction l with
 | nil => simp [tot]
 | cons x r ih =>
  have h1 := h x (by simp)
  have h2 := ih (fun y hy => h y (by simp [hy]))
  rw [List.map_cons, tot_cons, sum_cons, Nat.mul_add]
  omega
theorem tot_strs (l : List (List UInt8)) : tot l ≤ sum szS l := by
 induction l with
 | nil => simp [tot, sum]
 | cons x r ih => rw [tot_cons, sum_cons]; unfold szS at ih ⊢; omega
theorem encSg_len (x : Sg) (h : x.ok) (hs : x.sz ≤ 16777216) : (encSg x).length ≤ 10 * x.sz := by
 have h1 := putInts_len [x.server, x.kind, x.view, x.slot] (by simpa [List.forall_mem_cons, Sg.ok] using h) (by simp)
 unfold Sg.sz at hs ⊢
 have h2 := putStr_len x.digest (by omega)
 have h3 := putStr_len x.sig (by omega)
 simp only [encSg, contSg, List.length_append, List.length_cons, List.length_nil] at h1 ⊢
 omega
theorem cert_len (l : List Sg) (h : ∀ x ∈ l, x.ok) (hs : sum Sg.sz l ≤ 16777216) : (putList (l.map encSg)).length ≤ 10 + 12 * sum Sg.sz l ∧ tot (l.map encSg) ≤ 10 * sum Sg.sz l ∧ 7 * l.length ≤ sum Sg.sz l := by
 have h0 := sum_ge Sg.sz l 7 Sg.sz_ge
 have h1 := tot_map encSg Sg.sz 10 l (fun x hx => encSg_len x (h x hx) (by have := sum_get Sg.sz l x hx; omega))
 have h2 := putList_len (l.map encSg) (by omega) (by simp; omega)
 simp only [List.length_map] at h2
 exact ⟨by omega, h1, h0⟩
theorem encSt_len (s : St) (w : World) (h : s.ok w) (hs : s.sz ≤ 16777216) : (encSt s).length ≤ 12 * s.sz := by
 have h1 := putInts_len [s.server, s.view, s.length, s.lockView] (by simpa [List.forall_mem_cons] using h.1) (by simp)
 unfold St.sz at hs ⊢
 have h2 := putStr_len s.lock (by omega)
 have h3 := (cert_len s.cert.l h.2.2.1 (by omega)).1
 have h4 := encSg_len s.signed h.2.2.2 (by omega)
 have h5 := putStr_len (encSg s.signed) (by omega)
 simp only [encSt, List.length_append, List.length_cons, List.length_nil] at h1 ⊢
 omega
theorem encDe_len (d : De) (w : World) (h : d.ok w) (hs : d.sz ≤ 16777216) : (encDe d).length ≤ 12 * d.sz := by
 have h1 := putInts_len [d.view] (by simpa [List.forall_mem_cons] using h.1) (by simp)
 unfold De.sz at hs ⊢
 have h2 := putStr_len d.value (by omega)
 have h3 := (cert_len d.cert.l h.2.2 (by omega)).1
 simp only [encDe, List.length_append, List.length_cons, List.length_nil] at h1 ⊢
 omega
theorem encHo_len (x : Ho) (w : World) (h : x.ok w) (hs : x.sz ≤ 16777216) : (encHo x).length ≤ 12 * x.sz := by
 have h1 := putInts_len [x.slot] (by simpa [List.forall_mem_cons] using h.1) (by simp)
 unfold Ho.sz at hs ⊢
 have h2 := encDe_len x.entry w h.2 (by omega)
 simp only [encHo, List.length_append, List.length_cons, List.length_nil] at h1 ⊢
 omega
theorem list_len {α : Type} (enc : α → List UInt8) (f : α → Nat) (l : List α) (h : ∀ x ∈ l, (enc x).length ≤ 12 * f x) (hf : ∀ x, 4 ≤ f x) (hs : sum f l ≤ 16777216) :
    (putList (l.map enc)).length ≤ 10 + 15 * sum f l ∧ tot (l.map enc) ≤ 12 * sum f l ∧ 4 * l.length ≤ sum f l := by
 have h0 := sum_ge f l 4 hf
 have h1 := tot_map enc f 12 l h
 have h2 := putList_len (l.map enc) (by omega) (by simp; omega)
 simp only [List.length_map] at h2
 exact ⟨by omega, h1, h0⟩
theorem strL_len (l : List (List UInt8)) (hs : sum szS l ≤ 16777216) : (putList l).length ≤ 10 + 11 * sum szS l ∧ tot l ≤ sum szS l ∧ l.length ≤ sum szS l := by
 have h0 := sum_ge szS l 1 szS_ge
 have h1 := tot_strs l
 have h2 := putList_len l (by omega) (by omega)
 exact ⟨by omega, h1, by omega⟩
theorem encSn_len (x : Sn) (w : World) (h : x.ok w) (hs : x.sz ≤ 16777216) : (encSn x).length ≤ 15 * x.sz := by
 have h1 := putInts_len [x.slot] (by simpa [List.forall_mem_cons] using h.1) (by simp)
 unfold Sn.sz at hs ⊢
 have h2 := putStr_len x.root (by omega)
 have h3 := (strL_len x.chunks.l (by omega)).1
 have h4 := (cert_len x.proof.l h.2.2.1.2 (by omega)).1
 have h5 := (list_len encHo Ho.sz x.chain.l (fun y hy => encHo_len y w (h.2.2.2.2 y hy) (by have := sum_get Ho.sz _ y hy; omega)) (fun y => by have := y.sz_ge; omega) (by omega)).1
 simp only [encSn, List.length_append, List.length_cons, List.length_nil] at h1 ⊢
 omega
theorem encMs_len (m : Ms) (w : World) (h : m.ok w) (hs : m.sz ≤ 16777216) : (encMs m).length ≤ 16 * m.sz := by
 have h1 := putInts_len [m.kind, m.src, m.dst, m.view, m.slot, m.till] (by simpa [List.forall_mem_cons] using h.1) (by simp)
 unfold Ms.sz at hs ⊢
 have h2 := putStr_len m.value (by omega)
 have h3 := encSg_len m.signed h.2.1 (by omega)
 have h4 := putStr_len (encSg m.signed) (by omega)
 have h5 := (list_len encSt St.sz m.statuses.l (fun y hy => encSt_len y w (h.2.2.1.2 y hy) (by have := sum_get St.sz _ y hy; omega)) (fun y => by have := y.sz_ge; omega) (by omega)).1
 have h6 := (list_len encDe De.sz m.entries.l (fun y hy => encDe_len y w (h.2.2.2.1.2 y hy) (by have := sum_get De.sz _ y hy; omega)) (fun y => y.sz_ge) (by omega)).1
 have h7 := encSn_len m.snapshot w h.2.2.2.2.1 (by omega)
 have h8 := putStr_len (encSn m.snapshot) (by omega)
 have h9 := (strL_len m.texts.l (by omega)).1
 simp only [encMs, List.length_append, List.length_cons, List.length_nil] at h1 ⊢
 omega
def num (n : Int) : Bool := decide (0 ≤ n) && decide (n ≤ 2147483647)
def sgShort (x : Sg) : Bool := decide (x.digest.length ≤ 64) && decide (x.sig.length ≤ 64)
def certShort (l : List Sg) : Bool := l.all sgShort && decide (l.length ≤ 12)
def stRange (s : St) : Bool := decide (0 ≤ s.server) && decide (s.server < 12) && num s.view && num s.length && num s.lockView
def stShort (s : St) : Bool := decide (s.lock.length ≤ 2000) && certShort s.cert.l && sgShort s.signed
def deShort (d : De) : Bool := decide (d.value.length ≤ 2000) && certShort d.cert.l
def hoRange (h : Ho) : Bool := num h.slot && num h.entry.view
def rangesB (m : Ms) : Bool := m.statuses.l.all stRange && m.entries.l.all (fun d => num d.view) && m.snapshot.chain.l.all hoRange && num m.snapshot.slot
def headB (m : Ms) : Bool := decide (m.value.length ≤ 2000) && decide (m.statuses.l.length ≤ 12) && decide (m.entries.l.length ≤ 8) && decide (m.texts.l.length ≤ 500)
def rootB (m : Ms) : Bool := decide (m.snapshot.root.length ≤ 64) && decide (m.snapshot.chain.l.length ≤ 20)
def lengthsB (m : Ms) : Bool := headB m && rootB m && m.statuses.l.all stShort && m.entries.l.all deShort && m.snapshot.chain.l.all (fun h => deShort h.entry) && decide (tot m.texts.l ≤ 60000) && sgShort m.signed && certShort m.snapshot.proof.l
def emptySn (x : Sn) : Bool := decide (x.slot = 0) && decide (x.root = []) && decide (x.chunks.l.length + x.proof.l.length + x.chain.l.length = 0)
def sgZero (x : Sg) : Bool := decide (x = ⟨0, 0, 0, 0, [], []⟩)
def presL (m : Ms) : List Bool := [m.view != 0, m.slot != 0, m.till != 0, !m.value.isEmpty, !sgZero m.signed, decide (0 < m.statuses.l.length), decide (0 < m.entries.l.length), !emptySn m.snapshot, decide (0 < m.texts.l.length)]
def kwF (k : Int) : Nat := if k = 1 then 3 else if k = 2 then 99 else if k = 3 then 59 else if k = 4 then 19 else if k = 5 then 27 else if k = 6 then 66 else if k = 7 then 2 else if k = 8 then 1 else if k = 9 then 5 else if k = 10 then 26 else if k = 11 then 132 else if k = 12 then 271 else 0
def kwS (k : Int) : List UInt8 := if k = 1 then [97, 115, 107] else if k = 2 then [115, 116, 97, 116, 117, 115] else if k = 3 then [112, 114, 111, 112, 111, 115, 101] else if k = 4 then [112, 114, 101, 112, 97, 114, 101] else if k = 5 then [99, 111, 109, 109, 105, 116] else if k = 6 then [108, 101, 97, 114, 110] else if k = 7 then [102, 101, 116, 99, 104] else if k = 8 then [108, 101, 97, 115, 101] else if k = 9 then [103, 114, 97, 110, 116] else if k = 10 then [115, 116, 97, 98, 108, 101] else if k = 11 then [115, 110, 97, 112, 115, 104, 111, 116] else if k = 12 then [99, 104, 117, 110, 107] else []
def alw (k : Int) (i : Nat) : Bool := (kwF k).testBit i
def spareB (m : Ms) : Bool := (presL m).zipIdx.any fun x => x.1 && !alw m.kind x.2
def partB (m : Ms) : Bool := decide (m.src < 0) || decide (12 ≤ m.src) || decide (m.dst < 0) || decide (18 ≤ m.dst) || !num m.view || !num m.slot || decide (m.till < 0)
def oneB (m : Ms) : Bool := decide (m.kind = 2) && decide (m.statuses.l.length ≠ 1)
def vMs (m : Ms) : Int :=
 if m.kind < 1 ∨ 12 < m.kind then 1 else if partB m = true then 7 else if spareB m = true ∨ oneB m = true then 1
 else if rangesB m = false then 7 else if lengthsB m = false then 3 else if 0 < m.snapshot.chunks.l.length then 1 else 0
def getVAt : Nat → Nat → Nat → List UInt8 → Option (Nat × Nat)
 | 0, _, _, _ => none
 | _ + 1, _, _, [] => none
 | f + 1, k, a, c :: r =>
  if 128 ≤ c.toNat then getVAt f (k + 1) (a + (c.toNat - 128) * 128 ^ k) r
  else if 18446744073709551616 ≤ c.toNat * 128 ^ k then none
  else if c.toNat = 0 ∧ 0 < k then none
  else some (a + c.toNat * 128 ^ k, k + 1)
def getV (s : List UInt8) : Option (Nat × Nat) := getVAt 10 0 0 s
def getStr (s : List UInt8) : Option (List UInt8 × Nat) :=
 match getV s with
 | none => none
 | some (n, k) => if s.length - k < n then none else some ((s.drop k).take n, k + n)
def getMany {α : Type} (g : List UInt8 → Option (α × Nat)) : Nat → List UInt8 → Option (List α × Nat)
 | 0, _ => some ([], 0)
 | n + 1, s => match g s with
  | none => none
  | some (x, k) => match getMany g n (s.drop k) with
   | none => none
   | some (xs, m) => some (x :: xs, k + m)
def getAll {α : Type} (g : List UInt8 → Option (α × Nat)) (s : List UInt8) : Option (List α × Nat) :=
 match getV s with
 | none => none
 | some (n, k) => match getMany g n (s.drop k) with
  | none => none
  | some (xs, m) => some (xs, k + m)
def getList (s : List UInt8) : Option (List (List UInt8) × Nat) := getAll getStr s
def unzig (n : Nat) : Int := if n % 2 = 0 then (n / 2 : Nat) else -((n / 2 : Nat) : Int) - 1
def getInt (s : List UInt8) : Option (Int × Nat) := (getV s).map fun x => (unzig x.1, x.2)
def getInts (s : List UInt8) : Option (List Int × Nat) := getAll getInt s
theorem step_fit' : ∀ (c : Fin 128) (k : Fin 10), c.val * 128 ^ k.val < 18446744073709551616 → (c.val + 1) * 128 ^ k.val ≤ 18446744073709551616 := by decide +kernel
theorem step_fit (a c k : Nat) (hc : c < 128) (hk : k ≤ 9) (ha : a < 128 ^ k) (h : ¬ 18446744073709551616 ≤ c * 128 ^ k) : a + c * 128 ^ k < 18446744073709551616 := by
 have := step_fit' ⟨c, hc⟩ ⟨k, by omega⟩ (by simpa using h)
 simp only [Nat.add_mul] at this
 omega
theorem getVAt_le : ∀ (f k a : Nat) (s : List UInt8) (n m : Nat), getVAt f k a s = some (n, m) → k < m ∧ m ≤ k + f ∧ m ≤ k + s.length
 | 0, _, _, _, _, _, h => by simp [getVAt] at h
 | _ + 1, _, _, [], _, _, h => by simp [getVAt] at h
 | f + 1, k, a, c :: r, n, m, h => by
  rw [getVAt] at h
  split at h
  · have := getVAt_le f (k + 1) _ r n m h
    simp only [List.length_cons]; omega
  · split at h
    · simp at h
    · split at h
      · simp at h
      · simp only [Option.some.injEq, Prod.mk.injEq] at h
        simp only [List.length_cons]; omega
theorem getV_le {s : List UInt8} {n k : Nat} (h : getV s = some (n, k)) : 0 < k ∧ k ≤ 10 ∧ k ≤ s.length := by
 have := getVAt_le 10 0 0 s n k h; omega
theorem getVAt_lt : ∀ (f k a : Nat) (s : List UInt8) (n m : Nat), f + k = 10 → a < 128 ^ k → getVAt f k a s = some (n, m) → n < 18446744073709551616
 | 0, _, _, _, _, _, _, _, h => by simp [getVAt] at h
 | _ + 1, _, _, [], _, _, _, _, h => by simp [getVAt] at h
 | f + 1, k, a, c :: r, n, m, hk, ha, h => by
  have hpow : 128 ^ (k + 1) = 128 ^ k * 128 := Nat.pow_succ 128 k
  rw [getVAt] at h
  split at h
  · have hc := c.toNat_lt
    have hmul : (c.toNat - 128) * 128 ^ k ≤ 127 * 128 ^ k := Nat.mul_le_mul_right _ (by omega)
    exact getVAt_lt f (k + 1) _ r n m (by omega) (by omega) h
  · rename_i hc
    split at h
    · simp at h
    · rename_i hb
      split at h
      · simp at h
      · simp only [Option.some.injEq, Prod.mk.injEq] at h
        obtain ⟨rfl, rfl⟩ := h
        exact step_fit a _ k (by omega) (by omega) ha hb
theorem getStr_le {s x : List UInt8} {k : Nat} (h : getStr s = some (x, k)) : 0 < k ∧ k ≤ s.length ∧ x.length < k := by
 unfold getStr at h
 split at h
 · simp at h
 · rename_i n m hv
   have hl := getV_le hv
   split at h
   · simp at h
   · simp only [Option.some.injEq, Prod.mk.injEq] at h
     obtain ⟨rfl, rfl⟩ := h
     simp only [List.length_take, List.length_drop]
     omega
theorem getVAt_put : ∀ (f n k a : Nat) (r : List UInt8), n < 128 ^ f → 0 < f → n * 128 ^ k < 18446744073709551616 → (0 < k → 0 < n) → getVAt f k a (varint n ++ r) = some (a + n * 128 ^ k, k + (varint n).length)
 | 0, _, _, _, _, _, h0, _, _ => by omega
 | f + 1, n, k, a, r, hn, _, hb, hp => by
  have hpos : 0 < 128 ^ k := Nat.pow_pos (by omega)
  by_cases h : n < 128
  · have ht : n.toUInt8.toNat = n := by simp; omega
    rw [varint_small n h]
    simp only [List.cons_append, List.nil_append, List.length_cons, List.length_nil]
    rw [getVAt, ht, if_neg (by omega), if_neg (by omega), if_neg (by omega)]
  · have ht : ((128 + n % 128).toUInt8).toNat = 128 + n % 128 := by simp; omega
    rw [varint_big n h]
    simp only [List.cons_append, List.length_cons]
    have hdm : n = 128 * (n / 128) + n % 128 := (Nat.div_add_mod n 128).symm
    have hb2 : n / 128 * 128 ^ (k + 1) ≤ n * 128 ^ k := by
     rw [Nat.pow_succ, Nat.mul_comm (128 ^ k) 128, ← Nat.mul_assoc]
     exact Nat.mul_le_mul_right _ (by omega)
    have hf : n / 128 < 128 ^ f := by rw [Nat.div_lt_iff_lt_mul (by omega)]; rw [Nat.pow_succ] at hn; omega
    have hf0 : 0 < f := by
     rcases Nat.eq_zero_or_pos f with h0 | h0
     · subst h0; simp at hn; omega
     · exact h0
    rw [getVAt, ht, if_pos (by omega), getVAt_put f (n / 128) (k + 1) _ r hf hf0 (by omega) (by omega)]
    congr 1
    congr 1
    · rw [show 128 + n % 128 - 128 = n % 128 from by omega, Nat.pow_succ, Nat.add_assoc]
      congr 1
      rw [Nat.mul_comm (128 ^ k) 128, ← Nat.mul_assoc, ← Nat.add_mul]
      congr 1
      omega
    · omega
theorem getV_put (n : Nat) (r : List UInt8) (h : n < 18446744073709551616) : getV (varint n ++ r) = some (n, (varint n).length) := by
 have := getVAt_put 10 n 0 0 r (by omega) (by omega) (by omega) (by omega)
 simpa [getV] using this
theorem getStr_put (x r : List UInt8) (h : x.length < 18446744073709551616) : getStr (putStr x ++ r) = some (x, (putStr x).length) := by
 unfold getStr putStr
 rw [List.append_assoc, getV_put x.length (x ++ r) h]
 simp only []
 rw [if_neg (by simp)]
 simp
theorem getMany_put {α : Type} (g : List UInt8 → Option (α × Nat)) (put : α → List UInt8) (l : List α) (hg : ∀ x ∈ l, ∀ r, g (put x ++ r) = some (x, (put x).length)) (r : List UInt8) :
    getMany g l.length (l.flatMap put ++ r) = some (l, (l.flatMap put).length) := by
 induction l with
 | nil => rfl
 | cons x t ih =>
  simp only [List.flatMap_cons, List.length_cons, getMany, List.append_assoc]
  rw [hg x (by simp)]
  simp only [List.drop_left]
  rw [ih (fun y hy => hg y (by simp [hy]))]
  simp
theorem getAll_put {α : Type} (g : List UInt8 → Option (α × Nat)) (put : α → List UInt8) (l : List α) (hl : l.length < 18446744073709551616) (hg : ∀ x ∈ l, ∀ r, g (put x ++ r) = some (x, (put x).length)) (r : List UInt8) :
    getAll g ((varint l.length ++ l.flatMap put) ++ r) = some (l, (varint l.length ++ l.flatMap put).length) := by
 unfold getAll
 rw [List.append_assoc, getV_put _ _ hl]
 simp only [List.drop_left]
 rw [getMany_put g put l hg]
 simp
theorem getList_put (l : List (List UInt8)) (r : List UInt8) (hl : l.length < 18446744073709551616) (hx : ∀ x ∈ l, x.length < 18446744073709551616) : getList (putList l ++ r) = some (l, (putList l).length) :=
 getAll_put getStr putStr l hl (fun x h r => getStr_put x r (hx x h)) r
theorem unzig_zig (n : Int) : unzig (zig n) = n := by
 unfold unzig zig
 split <;> split <;> omega
theorem getInts_put (l : List Int) (r : List UInt8) (hl : l.length < 18446744073709551616) (hx : ∀ x ∈ l, I64 x) : getInts (putInts l ++ r) = some (l, (putInts l).length) :=
 getAll_put getInt (fun n => varint (zig n)) l hl (fun x h r => by
  unfold getInt
  rw [getV_put _ _ (zig_lt x (hx x h).1 (hx x h).2)]
  simp [unzig_zig]) r
/-! without addresses -/
def Sl.er {α : Type} (s : Sl α) : Sl α := ⟨none, 0, s.l⟩
def Sl.of {α : Type} (l : List α) : Sl α := ⟨none, 0, l⟩
def St.er (s : St) : St := { s with cert := s.cert.er }
def De.er (d : De) : De := { d with cert := d.cert.er }
def Ho.er (h : Ho) : Ho := { h with entry := h.entry.er }
def Sn.er (x : Sn) : Sn := { x with chunks := x.chunks.er, proof := x.proof.er, chain := Sl.of (x.chain.l.map Ho.er) }
def Ms.er (m : Ms) : Ms := { m with statuses := Sl.of (m.statuses.l.map St.er), entries := Sl.of (m.entries.l.map De.er), snapshot := m.snapshot.er, texts := m.texts.er }
theorem encSt_er (s : St) : encSt s.er = encSt s := rfl
/-! the readers: what is read, and what remains -/
@[reducible] def Pr (α : Type) : Type := List UInt8 → Option (α × List UInt8)
def Pr.then {α β : Type} (p : Pr α) (f : α → Pr β) : Pr β := fun s => match p s with
 | none => none
 | some (x, r) => f x r
def Pr.ret {α : Type} (x : α) : Pr α := fun s => some (x, s)
def off {α : Type} (g : List UInt8 → Option (α × Nat)) : Pr α := fun s => match g s with
 | none => none
 | some (x, k) => some (x, s.drop k)
def rdInts (n : Nat) : Pr (List Int) := fun s => match off getInts s with
 | none => none
 | some (l, r) => if l.length = n then some (l, r) else none
def rdText : Pr (List UInt8) := off getStr
def rdTexts : Pr (List (List UInt8)) := off getList
def whole {α : Type} (p : Pr α) (s : List UInt8) : Option α := match p s with
 | none => none
 | some (x, r) => if r = [] then some x else none
def many {α : Type} (p : Pr α) : List (List UInt8) → Option (List α)
 | [] => some []
 | s :: r => match whole p s with
  | none => none
  | some x => match many p r with
   | none => none
   | some l => some (x :: l)
def rdParts {α : Type} (p : Pr α) : Pr (List α) := fun s => match rdTexts s with
 | none => none
 | some (l, r) => match many p l with
  | none => none
  | some xs => some (xs, r)
def rdPart {α : Type} (p : Pr α) : Pr α := fun s => match rdText s with
 | none => none
 | some (t, r) => match whole p t with
  | none => none
  | some x => some (x, r)
def rdSg : Pr Sg := fun s => match rdInts 4 s with
 | none => none
 | some (l, r) => match rdText r with
  | none => none
  | some (d, r) => match rdText r with
   | none => none
   | some (g, r) => if r = [] then some (⟨l.getD 0 0, l.getD 1 0, l.getD 2 0, l.getD 3 0, d, g⟩, []) else none
def rdSt : Pr St := (rdInts 4).then fun n => rdText.then fun a => (rdParts rdSg).then fun c => (rdPart rdSg).then fun g => Pr.ret ⟨n.getD 0 0, n.getD 1 0, n.getD 2 0, n.getD 3 0, a, Sl.of c, g⟩
/-! what was put is read again -/
theorem rdInts_put (n : Nat) (l : List Int) (r : List UInt8) (hn : l.length = n) (hl : l.length < 18446744073709551616) (hx : ∀ x ∈ l, I64 x) : rdInts n (putInts l ++ r) = some (l, r) := by
 unfold rdInts off
 rw [getInts_put l r hl hx]
 simp [hn]
theorem rdText_put (x r : List UInt8) (h : x.length < 18446744073709551616) : rdText (putStr x ++ r) = some (x, r) := by
 unfold rdText off
 rw [getStr_put x r h]
 simp
theorem rdTexts_put (l : List (List UInt8)) (r : List UInt8) (hl : l.length < 18446744073709551616) (hx : ∀ x ∈ l, x.length < 18446744073709551616) : rdTexts (putList l ++ r) = some (l, r) := by
 unfold rdTexts off
 rw [getList_put l r hl hx]
 simp
theorem many_put {α β : Type} (p : Pr β) (enc : α → List UInt8) (e : α → β) (l : List α) (h : ∀ x ∈ l, whole p (enc x) = some (e x)) : many p (l.map enc) = some (l.map e) := by
 induction l with
 | nil => rfl
 | cons x r ih =>
  rw [List.map_cons, many]
  simp only [h x (by simp), ih (fun y hy => h y (by simp [hy])), List.map_cons]
theorem rdParts_put {α β : Type} (p : Pr β) (enc : α → List UInt8) (e : α → β) (l : List α) (r : List UInt8) (hl : l.length < 18446744073709551616) (hs : ∀ x ∈ l, (enc x).length < 18446744073709551616) (h : ∀ x ∈ l, whole p (enc x) = some (e x)) :
    rdParts p (putList (l.map enc) ++ r) = some (l.map e, r) := by
 unfold rdParts
 simp only [rdTexts_put (l.map enc) r (by simpa using hl) (by simpa using hs), many_put p enc e l h]
theorem rdPart_put {α : Type} (p : Pr α) (x : List UInt8) (y : α) (r : List UInt8) (hs : x.length < 18446744073709551616) (h : whole p x = some y) : rdPart p (putStr x ++ r) = some (y, r) := by
 unfold rdPart
 simp only [rdText_put x r hs, h]
theorem rdSg_put (x : Sg) (h : x.ok) (hs : x.sz ≤ 16777216) : rdSg (encSg x) = some (x, []) := by
 have h1 := rdInts_put 4 [x.server, x.kind, x.view, x.slot] (putStr x.digest ++ putStr x.sig) rfl (by simp) (by simpa [List.forall_mem_cons, Sg.ok] using h)
 unfold Sg.sz at hs
 have h2 := rdText_put x.digest (putStr x.sig) (by omega)
 have h3 := rdText_put x.sig [] (by omega)
 rw [List.append_nil] at h3
 unfold rdSg encSg contSg
 rw [List.append_assoc]
 simp only [h1, h2, h3]
 rfl
theorem whole_of {α : Type} {p : Pr α} {s : List UInt8} {x : α} (h : p s = some (x, [])) : whole p s = some x := by
 unfold whole; rw [h]; rfl
theorem then_put {α β : Type} {p : Pr α} {f : α → Pr β} {a r : List UInt8} {x : α} (h : p (a ++ r) = some (x, r)) : (p.then f) (a ++ r) = f x r := by
 unfold Pr.then; rw [h]
theorem then_end {α β : Type} {p : Pr α} {f : α → Pr β} {a : List UInt8} {x : α} (h : p a = some (x, [])) : (p.then f) a = f x [] := by
 unfold Pr.then; rw [h]
theorem parts_sg (l : List Sg) (r : List UInt8) (h : ∀ x ∈ l, x.ok) (hs : sum Sg.sz l ≤ 16777216) : rdParts rdSg (putList (l.map encSg) ++ r) = some (l, r) := by
 have h0 := sum_ge Sg.sz l 7 Sg.sz_ge
 have := rdParts_put rdSg encSg id l r (by omega) (fun x hx => by have h1 := sum_get Sg.sz l x hx; have := encSg_len x (h x hx) (by omega); omega)
  (fun x hx => whole_of (rdSg_put x (h x hx) (by have := sum_get Sg.sz l x hx; omega)))
 simpa using this
theorem part_sg (x : Sg) (r : List UInt8) (h : x.ok) (hs : x.sz ≤ 16777216) : rdPart rdSg (putStr (encSg x) ++ r) = some (x, r) :=
 rdPart_put rdSg (encSg x) x r (by have := encSg_len x h hs; omega) (whole_of (rdSg_put x h hs))
theorem rdSt_put (s : St) (w : World) (h : s.ok w) (hs : s.sz ≤ 16777216) : rdSt (encSt s) = some (s.er, []) := by
 have hz := hs
 unfold St.sz at hz
 unfold rdSt encSt
 rw [List.append_assoc, List.append_assoc, then_put (rdInts_put 4 [s.server, s.view, s.length, s.lockView] _ rfl (by simp) (by simpa [List.forall_mem_cons] using h.1)),
  then_put (rdText_put s.lock _ (by omega)), then_put (parts_sg s.cert.l _ h.2.2.1 (by omega)), then_end (x := s.signed) (by have := part_sg s.signed [] h.2.2.2 (by omega); rwa [List.append_nil] at this)]
 rfl
/-! the sizes of what is read -/
end Go.Proofs.YtikpcebhcnjkhaaGreatDoor
