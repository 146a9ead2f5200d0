/- The contracts of the checks: numbers, signatures, lists of them. -/
import Derived.Test.YtoehakekjlebdaaDoorBoxA
import Derived.Test.YtoehakekjlebdaaDoorValP
import Derived.Deep.AppendLies
import Derived.Maps.AppendAt
import Derived.Maps.Range
namespace Go.Proofs.YtoehakekjlebdaaDoor
open Go.RowKit

/-- a truth value comes back, below nothing turns -/
def RetBool (b : Bool) (w : World) (e : Ending) (w' : World) : Prop := e = .returned (.bool b) ∧ Below w.heap.size w w'
theorem ret_bl {b c : Bool} {w w' : World} (h : b = c) (hb : Below w.heap.size w w') : RetBool b w (.returned (.bool c)) w' := ⟨by rw [h], hb⟩
/-- an error's number comes back, below nothing turns -/
def RetErr (n : Int) (w : World) (e : Ending) (w' : World) : Prop := e = .returned (.int .i64 n) ∧ Below w.heap.size w w'
theorem ret_er {n m : Int} {w w' : World} (h : n = m) (hb : Below w.heap.size w w') : RetErr n w (.returned (.int .i64 m)) w' := ⟨by rw [h], hb⟩

theorem grown_set (w : World) (a : Addr) (u : Value) : w.grownBy (w.setCell a u) (some a.block) :=
  ⟨rfl, rfl, rfl, by simp, fun k _ hk => heap_setCell_other w a k u (fun e => hk (by rw [e]))⟩
theorem grown_below {w w' : World} (h : Below w.heap.size w w') (row : Option Nat) : w.grownBy w' row :=
  ⟨h.os, h.tape, h.output, h.size, fun k hk _ => h.block k hk⟩
/-- the checker's block: two marks -/
structure Ck (w : World) (g : Nat) (o t : Bool) : Prop where
  lt : g < w.heap.size
  c0 : w.cell? ⟨g, 0, none⟩ = some (.bool o)
  c1 : w.cell? ⟨g, 1, none⟩ = some (.bool t)
  f0 : w.frozen? ⟨g, 0, none⟩ = false
  f1 : w.frozen? ⟨g, 1, none⟩ = false
theorem Ck.below {w w' : World} {g : Nat} {o t : Bool} (h : Ck w g o t) (hb : Below w.heap.size w w') : Ck w' g o t where
  lt := Nat.lt_of_lt_of_le h.lt hb.size
  c0 := (hb.cell (p := ⟨g, 0, none⟩) h.lt).trans h.c0
  c1 := (hb.cell (p := ⟨g, 1, none⟩) h.lt).trans h.c1
  f0 := (hb.frozen (p := ⟨g, 0, none⟩) h.lt).trans h.f0
  f1 := (hb.frozen (p := ⟨g, 1, none⟩) h.lt).trans h.f1
theorem Ck.new (w : World) (o t : Bool) (T : TypeId) : Ck (w.alloc (.cells #[.bool o, .bool t] T)) w.heap.size o t where
  lt := by simp
  c0 := by simp
  c1 := by simp
  f0 := by simp
  f1 := by simp
theorem frz_set (w : World) (p q : Addr) (v : Value) : (w.setCell p v).frozen? q = w.frozen? q := by simp
theorem Ck.set0 {w : World} {g : Nat} {o t : Bool} (h : Ck w g o t) (b : Bool) : Ck (w.setCell ⟨g, 0, none⟩ (.bool b)) g b t where
  lt := by simpa using h.lt
  c0 := World.cell?_setCell_same _ _ _ h.c0
  c1 := (World.cell?_setCell_other _ _ _ _ (by simp)).trans h.c1
  f0 := (frz_set _ _ _ _).trans h.f0
  f1 := (frz_set _ _ _ _).trans h.f1
theorem Ck.set1 {w : World} {g : Nat} {o t : Bool} (h : Ck w g o t) (b : Bool) : Ck (w.setCell ⟨g, 1, none⟩ (.bool b)) g o b where
  lt := by simpa using h.lt
  c0 := (World.cell?_setCell_other _ _ _ _ (by simp)).trans h.c0
  c1 := World.cell?_setCell_same _ _ _ h.c1
  f0 := (frz_set _ _ _ _).trans h.f0
  f1 := (frz_set _ _ _ _).trans h.f1
/-- the checker's marks have turned, nothing else -/
def CkTo (w : World) (g : Nat) (o t : Bool) (w' : World) : Prop := w.grownBy w' (some g) ∧ Ck w' g o t
theorem CkTo.refl {w : World} {g : Nat} {o t : Bool} (h : Ck w g o t) : CkTo w g o t w := ⟨grown_below (Below.refl _ _) _, h⟩
theorem CkTo.trans {w w1 w2 : World} {g : Nat} {o t o' t' : Bool} (h : CkTo w g o t w1) (k : CkTo w1 g o' t' w2) : CkTo w g o' t' w2 := ⟨h.1.trans k.1, k.2⟩
theorem CkTo.below {w w1 w2 : World} {g : Nat} {o t : Bool} (h : CkTo w g o t w1) (k : Below w1.heap.size w1 w2) : CkTo w g o t w2 := ⟨h.1.trans (grown_below k _), h.2.below k⟩
theorem CkTo.alloc {w w1 : World} {g : Nat} {o t : Bool} (h : CkTo w g o t w1) (x : Obj) : CkTo w g o t (w1.alloc x) := h.below (below_new _ _)
theorem CkTo.set0 {w w1 : World} {g : Nat} {o t : Bool} (h : CkTo w g o t w1) (b : Bool) : CkTo w g b t (w1.setCell ⟨g, 0, none⟩ (.bool b)) := ⟨h.1.trans (grown_set _ _ _), h.2.set0 b⟩
theorem CkTo.set1 {w w1 : World} {g : Nat} {o t : Bool} (h : CkTo w g o t w1) (b : Bool) : CkTo w g o b (w1.setCell ⟨g, 1, none⟩ (.bool b)) := ⟨h.1.trans (grown_set _ _ _), h.2.set1 b⟩
theorem CkTo.eq {w w1 : World} {g : Nat} {o t o' t' : Bool} (h : CkTo w g o t w1) (ho : o = o') (ht : t = t') : CkTo w g o' t' w1 := ho ▸ ht ▸ h
def RetCk (w : World) (g : Nat) (o t : Bool) (e : Ending) (w' : World) : Prop := e = .returned (.tuple #[]) ∧ CkTo w g o t w'
/-- a slice whose cells lie apart from block g -/
structure RdN (g : Nat) (w : World) (k : Nat) (A : Option Addr) (n : Nat) (xs : List Value) : Prop where
  len : xs.length = n * k
  cells : 0 < xs.length → ∃ b o, A = some ⟨b, o, none⟩ ∧ b < w.heap.size ∧ b ≠ g ∧ ∀ j u, xs[j]? = some u → w.cell? ⟨b, o + j, none⟩ = some u
theorem Rd.apart {w0 w : World} {g k n : Nat} {A : Option Addr} {xs : List Value} (h : Rd w0 k A n xs) (hb : Below w0.heap.size w0 w) (hg : w0.heap.size ≤ g) : RdN g w k A n xs :=
  ⟨h.len, fun hj => by
    obtain ⟨b, o, e, hl, hc⟩ := h.cells hj
    exact ⟨b, o, e, Nat.lt_of_lt_of_le hl hb.size, by omega, fun j u hu => (hb.cell (p := ⟨b, o + j, none⟩) hl).trans (hc j u hu)⟩⟩
theorem RdN.at {α : Type} {w : World} {g m : Nat} {A : Option Addr} {l : List α} {C : α → List Value} (h : RdN g w m A l.length (l.flatMap C)) (hC : ∀ x, (C x).length = m) (hm : 0 < m) {k : Nat} (hk : k < l.length) :
    ∃ b o, A = some ⟨b, o, none⟩ ∧ b < w.heap.size ∧ b ≠ g ∧ ∀ w', w.grownBy w' (some g) → ∀ j v, (C l[k])[j]? = some v → w'.cell? ⟨b, o + k * m + j, none⟩ = some v := by
  have hp : 0 < l.length * m := Nat.mul_pos (by omega) hm
  obtain ⟨b, o, rfl, hb, hne, hc⟩ := h.cells (by rw [flat_len C m hC]; exact hp)
  refine ⟨b, o, rfl, hb, hne, fun w' hw j v hv => ?_⟩
  rw [hw.cell_far ⟨b, o + k * m + j, none⟩ hb (by simp; omega)]
  have hj : j < m := by
    have := (List.getElem?_eq_some_iff.1 hv).1
    rwa [hC] at this
  have := hc (k * m + j) v (by rw [flat_get C m hC l k hk j hj]; exact hv)
  rwa [← Nat.add_assoc] at this
theorem all_take {α : Type} (l : List α) (p : α → Bool) (k : Nat) (h : k < l.length) : (l.take (k + 1)).all p = ((l.take k).all p && p l[k]) := by
  rw [List.take_succ_eq_append_getElem h, List.all_append]; simp
theorem num_yes {n : Int} (h0 : 0 ≤ n) (h1 : n ≤ 2147483647) : num n = true := by simp [num, h0, h1]
theorem num_no {n : Int} (h : ¬ (0 ≤ n ∧ n ≤ 2147483647)) : num n = false := by
  unfold num
  by_cases h0 : 0 ≤ n
  · have : ¬ n ≤ 2147483647 := fun h1 => h ⟨h0, h1⟩
    simp [this]
  · simp [h0]
set_option maxHeartbeats 400000 in
theorem number_any (n : Int) (w : World) : Calls Tryd.prog 20 #[.int .i64 n] w fun e w' => e = .returned (.bool (num n)) ∧ w = w' := by
  by_cases h0 : 0 ≤ n
  · by_cases h1 : n ≤ 2147483647
    · have H := Lib.hid (num_yes h0 h1)
      go_enter Tryd.func20, Tryd.ntmps20
      go_wp2_with fail
      go_ret
      exact ⟨congrArg (fun b => Ending.returned (.bool b)) H.out.symm, rfl⟩
    · have H := Lib.hid (num_no (n := n) (by omega))
      go_enter Tryd.func20, Tryd.ntmps20
      go_wp2_with fail
      go_ret
      exact ⟨congrArg (fun b => Ending.returned (.bool b)) H.out.symm, rfl⟩
  · have H := Lib.hid (num_no (n := n) (by omega))
    go_enter Tryd.func20, Tryd.ntmps20
    go_wp2_with fail
    go_ret
    exact ⟨congrArg (fun b => Ending.returned (.bool b)) H.out.symm, rfl⟩
theorem long_val (a b : Nat) : decide ((b : Int) < (a : Int)) = !decide (a ≤ b) := by
  by_cases h : a ≤ b
  · have : ¬ (b : Int) < (a : Int) := by omega
    simp [h]
  · have : (b : Int) < (a : Int) := by omega
    simp [h, this]
theorem short_val' (x : Sg) : (false || !sgShort x) = (decide ((64 : Int) < x.digest.length) || decide ((64 : Int) < x.sig.length)) := by
  rw [show (64 : Int) = ((64 : Nat) : Int) from rfl, long_val, long_val]
  unfold sgShort
  cases decide (x.digest.length ≤ 64) <;> cases decide (x.sig.length ≤ 64) <;> rfl
set_option maxRecDepth 100000 in
set_option maxHeartbeats 2000000 in
theorem signed_any (g : Nat) (o t : Bool) (A : Option Addr) (c : Nat) (l : List Sg) (w : World) (hk : Ck w g o t) (hr : RdN g w 6 A l.length (l.flatMap sgC)) (hn : l.length ≤ 1099511627776) :
    Calls Tryd.prog 22 #[.pointer (some ⟨g, 0, none⟩), .slice A l.length c] w (RetCk w g o (t || !l.all sgShort)) := by
  have HR := Lib.hid hr
  have HK := Lib.hid hk
  clear hr hk
  go_enter Tryd.func22, Tryd.ntmps22
  go_wp2_with fail
  go_loopw [8] (fun i wr => ∃ k : Nat, i = .int .i64 k ∧ k ≤ l.length ∧ CkTo w g o (t || !(l.take k).all sgShort) wr) (fun i _ => l.length - (intOf i).toNat)
  case atStart => exact ⟨0, rfl, by omega, by simpa using CkTo.refl HK.out⟩
  case round =>
    obtain ⟨k, rfl, hk, hb⟩ := hrel
    have HB := Lib.hid hb
    clear hb
    by_cases hlt : k < l.length
    · have i0' : (0 : Int) ≤ (k : Int) := by omega
      have i1 : (k : Int) < (l.length : Int) := by omega
      obtain ⟨b, off, rfl, hg, hne, hcc⟩ := HR.out.at (fun _ => rfl) (by omega) hlt
      obtain ⟨x, hx⟩ : ∃ x, x = l[k] := ⟨_, rfl⟩
      have HX := Lib.hid hx.symm
      clear hx
      have a0 : wr.cell? ⟨b, off + k * 6, none⟩ = some (.int .i64 x.server) := by simpa using hcc wr HB.out.1 0 _ (by rw [HX.out]; rfl)
      have a1 : wr.cell? ⟨b, off + k * 6 + 1, none⟩ = some (.int .i64 x.kind) := hcc wr HB.out.1 1 _ (by rw [HX.out]; rfl)
      have a2 : wr.cell? ⟨b, off + k * 6 + 2, none⟩ = some (.int .i64 x.view) := hcc wr HB.out.1 2 _ (by rw [HX.out]; rfl)
      have a3 : wr.cell? ⟨b, off + k * 6 + 3, none⟩ = some (.int .i64 x.slot) := hcc wr HB.out.1 3 _ (by rw [HX.out]; rfl)
      have a4 : wr.cell? ⟨b, off + k * 6 + 4, none⟩ = some (.string ⟨x.digest.toArray⟩) := hcc wr HB.out.1 4 _ (by rw [HX.out]; rfl)
      have a5 : wr.cell? ⟨b, off + k * 6 + 5, none⟩ = some (.string ⟨x.sig.toArray⟩) := hcc wr HB.out.1 5 _ (by rw [HX.out]; rfl)
      have k0 := HB.out.2.c1
      have k1 := HB.out.2.f1
      have hgl := HB.out.2.lt
      have HT := Lib.hid (all_take l sgShort k hlt)
      have HS : Hid (∀ q : Bool, q = (t || !(l.take k).all sgShort || !sgShort x) → CkTo w g o (t || !(l.take (k + 1)).all sgShort) ((wr.setCell ⟨g, 1, none⟩ (.bool q)).alloc (.cells #[.int .i64 x.server, .int .i64 x.kind, .int .i64 x.view, .int .i64 x.slot, .string ⟨x.digest.toArray⟩, .string ⟨x.sig.toArray⟩] 23))) :=
        Lib.hid (fun q hq => ((HB.out.set1 q).alloc _).eq rfl (by rw [hq, HT.out, HX.out]; cases t <;> cases (l.take k).all sgShort <;> cases sgShort x <;> rfl))
      clear hcc
      cases hq : (t || !(l.take k).all sgShort) with
      | true =>
        rw [hq] at k0
        have HQ := Lib.hid hq
        clear hq
        go_wp2_with fail
        go_roundw
        case rel => exact ⟨k + 1, by go_num, by omega, HS.out _ (by rw [HQ.out]; first | done | rfl)⟩
        case measure => simp [intOf]; omega
      | false =>
        rw [hq] at k0
        have HQ := Lib.hid hq
        clear hq
        by_cases h1 : x.digest.length ≤ 64
        all_goals
          go_wp2_with fail
          go_roundw
          case rel => exact ⟨k + 1, by go_num, by omega, HS.out _ (by rw [HQ.out, short_val' x]; first | done | (simp; omega))⟩
          case measure => simp [intOf]; omega
    · obtain rfl : k = l.length := by omega
      have HE : Hid (CkTo w g o (t || !l.all sgShort) wr) := Lib.hid (by simpa using HB.out)
      go_wp2_with fail
      go_end0
      exact ⟨rfl, HE.out⟩
set_option maxRecDepth 100000 in
set_option maxHeartbeats 2000000 in
theorem cert_any (g : Nat) (o t : Bool) (A : Option Addr) (c : Nat) (l : List Sg) (w : World) (hk : Ck w g o t) (hr : RdN g w 6 A l.length (l.flatMap sgC)) (hn : l.length ≤ 1099511627776) :
    Calls Tryd.prog 44 #[.pointer (some ⟨g, 0, none⟩), .slice A l.length c] w (RetCk w g o (t || !certShort l)) := by
  have HS : Hid (∀ q : Bool, Calls Tryd.prog 22 #[.pointer (some ⟨g, 0, none⟩), .slice A l.length c] (w.setCell ⟨g, 1, none⟩ (.bool q)) (RetCk (w.setCell ⟨g, 1, none⟩ (.bool q)) g o (q || !l.all sgShort))) :=
    Lib.hid (fun q => signed_any g o q A c l _ (hk.set1 q) ⟨hr.len, fun hj => by
      obtain ⟨b, off, e, hl, hne, hc⟩ := hr.cells hj
      exact ⟨b, off, e, by simpa using hl, hne, fun j u hu => (World.cell?_setCell_other _ _ _ _ (by first | (simp; done) | (simp; omega))).trans (hc j u hu)⟩⟩ hn)
  have k0 := hk.c1
  have k1 := hk.f1
  have hgl := hk.lt
  have HK := Lib.hid hk
  have HE : Hid (∀ (q : Bool) (w' : World), q = (t || !decide (l.length ≤ 12)) → CkTo (w.setCell ⟨g, 1, none⟩ (.bool q)) g o (q || !l.all sgShort) w' → CkTo w g o (t || !certShort l) w') :=
    Lib.hid (fun q w' hq h => (((CkTo.refl hk).set1 q).trans h).eq rfl (by rw [hq]; unfold certShort; cases t <;> cases l.all sgShort <;> cases decide (l.length ≤ 12) <;> rfl))
  clear hk hr
  cases t with
  | true =>
    go_enter Tryd.func44, Tryd.ntmps44
    go_wp2_with fail
    refine (HS.out _).mono ?_
    rintro e w1 ⟨rfl, b1⟩
    have B1 := Lib.hid b1
    clear b1
    go_wp2_with fail
    go_end0
    exact ⟨rfl, HE.out _ _ rfl B1.out⟩
  | false =>
    go_enter Tryd.func44, Tryd.ntmps44
    go_wp2_with fail
    refine (HS.out _).mono ?_
    rintro e w1 ⟨rfl, b1⟩
    have B1 := Lib.hid b1
    clear b1
    go_wp2_with fail
    go_end0
    exact ⟨rfl, HE.out _ _ (long_val _ 12) B1.out⟩
end Go.Proofs.YtoehakekjlebdaaDoor
