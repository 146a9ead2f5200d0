/- The contracts of the checks: numbers, signatures, lists of them. -/
import Derived.Deep.AppendLies
import Derived.Maps.AppendAt
import Derived.Maps.Range
import Derived.Test.YtikpcebhcnjkhaaGreatDoorDPl
import Derived.Test.YtikpcebhcnjkhaaGreatDoorDWa
namespace Go.Proofs.YtikpcebhcnjkhaaGreatDoor
open Go.RowKit
def RetBool (b : Bool) (w : World) (e : Ending) (w' : World) : Prop := e = .returned (.bool b) ∧ Below w.heap.size w w'
theorem ret_bl {b c : Bool} {w w' : World} (h : b = c) (hb : Below w.heap.size w w') : RetBool b w (.returned (.bool c)) w' := ⟨by rw [h], hb⟩
def RetErr (n : Int) (w : World) (e : Ending) (w' : World) : Prop := e = .returned (.int .i64 n) ∧ Below w.heap.size w w'
theorem ret_er {n m : Int} {w w' : World} (h : n = m) (hb : Below w.heap.size w w') : RetErr n w (.returned (.int .i64 m)) w' := ⟨by rw [h], hb⟩
theorem grown_set (w : World) (a : Addr) (u : Value) : w.grownBy (w.setCell a u) (some a.block) :=
 ⟨rfl, rfl, rfl, by simp, fun k _ hk => heap_setCell_other w a k u (fun e => hk (by rw [e]))⟩
theorem grown_below {w w' : World} (h : Below w.heap.size w w') (row : Option Nat) : w.grownBy w' row :=
 ⟨h.os, h.tape, h.output, h.size, fun k hk _ => h.block k hk⟩
structure Ck (w : World) (g : Nat) (o t : Bool) : Prop where
 lt : g < w.heap.size
 c0 : w.cell? ⟨g, 0, none⟩ = some (.bool o)
 c1 : w.cell? ⟨g, 1, none⟩ = some (.bool t)
 f0 : w.frozen? ⟨g, 0, none⟩ = false
 f1 : w.frozen? ⟨g, 1, none⟩ = false
theorem Ck.below {w w' : World} {g : Nat} {o t : Bool} (h : Ck w g o t) (hb : Below w.heap.size w w') : Ck w' g o t where
 lt := Nat.lt_of_lt_of_le h.lt hb.size
 c0 := (hb.cell (p := ⟨g, 0, none⟩) h.lt).trans h.c0
 c1 := (hb.cell (p := ⟨g, 1, none⟩) h.lt).trans h.c1
 f0 := (hb.frozen (p := ⟨g, 0, none⟩) h.lt).trans h.f0
 f1 := (hb.frozen (p := ⟨g, 1, none⟩) h.lt).trans h.f1
theorem Ck.new (w : World) (o t : Bool) (T : TypeId) : Ck (w.alloc (.cells #[.bool o, .bool t] T)) w.heap.size o t where
 lt := by simp
 c0 := by simp
 c1 := by simp
 f0 := by simp
 f1 := by simp
theorem frz_set (w : World) (p q : Addr) (v : Value) : (w.setCell p v).frozen? q = w.frozen? q := by simp
theorem Ck.set0 {w : World} {g : Nat} {o t : Bool} (h : Ck w g o t) (b : Bool) : Ck (w.setCell ⟨g, 0, none⟩ (.bool b)) g b t where
 lt := by simpa using h.lt
 c0 := World.cell?_setCell_same _ _ _ h.c0
 c1 := (World.cell?_setCell_other _ _ _ _ (by simp)).trans h.c1
 f0 := (frz_set _ _ _ _).trans h.f0
 f1 := (frz_set _ _ _ _).trans h.f1
theorem Ck.set1 {w : World} {g : Nat} {o t : Bool} (h : Ck w g o t) (b : Bool) : Ck (w.setCell ⟨g, 1, none⟩ (.bool b)) g o b where
 lt := by simpa using h.lt
 c0 := (World.cell?_setCell_other _ _ _ _ (by simp)).trans h.c0
 c1 := World.cell?_setCell_same _ _ _ h.c1
 f0 := (frz_set _ _ _ _).trans h.f0
 f1 := (frz_set _ _ _ _).trans h.f1
def CkTo (w : World) (g : Nat) (o t : Bool) (w' : World) : Prop := w.grownBy w' (some g) ∧ Ck w' g o t
theorem CkTo.refl {w : World} {g : Nat} {o t : Bool} (h : Ck w g o t) : CkTo w g o t w := ⟨grown_below (Below.refl _ _) _, h⟩
theorem CkTo.trans {w w1 w2 : World} {g : Nat} {o t o' t' : Bool} (h : CkTo w g o t w1) (k : CkTo w1 g o' t' w2) : CkTo w g o' t' w2 := ⟨h.1.trans k.1, k.2⟩
theorem CkTo.below {w w1 w2 : World} {g : Nat} {o t : Bool} (h : CkTo w g o t w1) (k : Below w1.heap.size w1 w2) : CkTo w g o t w2 := ⟨h.1.trans (grown_below k _), h.2.below k⟩
theorem CkTo.alloc {w w1 : World} {g : Nat} {o t : Bool} (h : CkTo w g o t w1) (x : Obj) : CkTo w g o t (w1.alloc x) := h.below (below_new _ _)
theorem CkTo.set0 {w w1 : World} {g : Nat} {o t : Bool} (h : CkTo w g o t w1) (b : Bool) : CkTo w g b t (w1.setCell ⟨g, 0, none⟩ (.bool b)) := ⟨h.1.trans (grown_set _ _ _), h.2.set0 b⟩
theorem CkTo.set1 {w w1 : World} {g : Nat} {o t : Bool} (h : CkTo w g o t w1) (b : Bool) : CkTo w g o b (w1.setCell ⟨g, 1, none⟩ (.bool b)) := ⟨h.1.trans (grown_set _ _ _), h.2.set1 b⟩
theorem CkTo.eq {w w1 : World} {g : Nat} {o t o' t' : Bool} (h : CkTo w g o t w1) (ho : o = o') (ht : t = t') : CkTo w g o' t' w1 := ho ▸ ht ▸ h
def RetCk (w : World) (g : Nat) (o t : Bool) (e : Ending) (w' : World) : Prop := e = .returned (.tuple #[]) ∧ CkTo w g o t w'
structure RdN (g : Nat) (w : World) (k : Nat) (A : Option Addr) (n : Nat) (xs : List Value) : Prop where
 len : xs.length = n * k
 cells : 0 < xs.length → ∃ b o, A = some ⟨b, o, none⟩ ∧ b < w.heap.size ∧ b ≠ g ∧ ∀ j u, xs[j]? = some u → w.cell? ⟨b, o + j, none⟩ = some u
theorem Rd.apart {w0 w : World} {g k n : Nat} {A : Option Addr} {xs : List Value} (h : Rd w0 k A n xs) (hb : Below w0.heap.size w0 w) (hg : w0.heap.size ≤ g) : RdN g w k A n xs :=
 ⟨h.len, fun hj => by
  obtain ⟨b, o, e, hl, hc⟩ := h.cells hj
  exact ⟨b, o, e, Nat.lt_of_lt_of_le hl hb.size, by omega, fun j u hu => (hb.cell (p := ⟨b, o + j, none⟩) hl).trans (hc j u hu)⟩⟩
theorem RdN.at {α : Type} {w : World} {g m : Nat} {A : Option Addr} {l : List α} {C : α → List Value} (h : RdN g w m A l.length (l.flatMap C)) (hC : ∀ x, (C x).length = m) (hm : 0 < m) {k : Nat} (hk : k < l.length) :
    ∃ b o, A = some ⟨b, o, none⟩ ∧ b < w.heap.size ∧ b ≠ g ∧ ∀ w', w.grownBy w' (some g) → ∀ j v, (C l[k])[j]? = some v → w'.cell? ⟨b, o + k * m + j, none⟩ = some v := by
 have hp : 0 < l.length * m := Nat.mul_pos (by omega) hm
 obtain ⟨b, o, rfl, hb, hne, hc⟩ := h.cells (by rw [flat_len C m hC]; exact hp)
 refine ⟨b, o, rfl, hb, hne, fun w' hw j v hv => ?_⟩
 rw [hw.cell_far ⟨b, o + k * m + j, none⟩ hb (by simp; omega)]
 have hj : j < m := by
  have := (List.getElem?_eq_some_iff.1 hv).1
  rwa [hC] at this
 have := hc (k * m + j) v (by rw [flat_get C m hC l k hk j hj]; exact hv)
 rwa [← Nat.add_assoc] at this
theorem all_take {α : Type} (l : List α) (p : α → Bool) (k : Nat) (h : k < l.length) : (l.take (k + 1)).all p = ((l.take k).all p && p l[k]) := by
 rw [List.take_succ_eq_append_getElem h, List.all_append]; simp
theorem num_yes {n : Int} (h0 : 0 ≤ n) (h1 : n ≤ 2147483647) : num n = true := by simp [num, h0, h1]
theorem num_no {n : Int} (h : ¬ (0 ≤ n ∧ n ≤ 2147483647)) : num n = false := by
 unfold num
 by_cases h0 : 0 ≤ n
 · have : ¬ n ≤ 2147483647 := fun h1 => h ⟨h0, h1⟩
   simp [this]
 · simp [h0]
set_option maxHeartbeats 400000 in
theorem number_any (n : Int) (w : World) : Calls Tryz.prog 82 #[.int .i64 n] w fun e w' => e = .returned (.bool (num n)) ∧ w = w' := by
 by_cases h0 : 0 ≤ n
 · by_cases h1 : n ≤ 2147483647
   · have H := hD (num_yes h0 h1)
     go_enter Tryz.func82, Tryz.ntmps82
     go_wp2_with fail
     go_ret
     exact ⟨congrArg (fun b => Ending.returned (.bool b)) H.out.symm, rfl⟩
   · have H := hD (num_no (n := n) (by omega))
     go_enter Tryz.func82, Tryz.ntmps82
     go_wp2_with fail
     go_ret
     exact ⟨congrArg (fun b => Ending.returned (.bool b)) H.out.symm, rfl⟩
 · have H := hD (num_no (n := n) (by omega))
   go_enter Tryz.func82, Tryz.ntmps82
   go_wp2_with fail
   go_ret
   exact ⟨congrArg (fun b => Ending.returned (.bool b)) H.out.symm, rfl⟩
theorem long_val (a b : Nat) : decide ((b : Int) < (a : Int)) = !decide (a ≤ b) := by
 by_cases h : a ≤ b
 · have : ¬ (b : Int) < (a : Int) := by omega
   simp [h]
 · have : (b : Int) < (a : Int) := by omega
   simp [h, this]
theorem short_val' (x : Sg) : (false || !sgShort x) = (decide ((64 : Int) < x.digest.length) || decide ((64 : Int) < x.sig.length)) := by
 rw [show (64 : Int) = ((64 : Nat) : Int) from rfl, long_val, long_val]
 unfold sgShort
 cases decide (x.digest.length ≤ 64) <;> cases decide (x.sig.length ≤ 64) <;> rfl
set_option maxRecDepth 100000 in
set_option maxHeartbeats 2000000 in
theorem signed_any (g : Nat) (o t : Bool) (A : Option Addr) (c : Nat) (l : List Sg) (w : World) (hk : Ck w g o t) (hr : RdN g w 6 A l.length (l.flatMap sgC)) (hn : l.length ≤ 1099511627776) :
    Calls Tryz.prog 84 #[.pointer (some ⟨g, 0, none⟩), .slice A l.length c] w (RetCk w g o (t || !l.all sgShort)) := by
 have HR := hD hr
 have HK := hD hk
 clear hr hk
 go_enter Tryz.func84, Tryz.ntmps84
 go_wp2_with fail
 go_loopw [8] (fun i wr => ∃ k : Nat, i = .int .i64 k ∧ k ≤ l.length ∧ CkTo w g o (t || !(l.take k).all sgShort) wr) (fun i _ => l.length - (intOf i).toNat)
 case atStart => exact ⟨0, rfl, by omega, by simpa using CkTo.refl HK.out⟩
 case round =>
  obtain ⟨k, rfl, hk, hb⟩ := hrel
  have HB := hD hb
  clear hb
  by_cases hlt : k < l.length
  · have i0' : (0 : Int) ≤ (k : Int) := by omega
    have i1 : (k : Int) < (l.length : Int) := by omega
    obtain ⟨b, off, rfl, hg, hne, hcc⟩ := HR.out.at (fun _ => rfl) (by omega) hlt
    obtain ⟨x, hx⟩ : ∃ x, x = l[k] := ⟨_, rfl⟩
    have HX := hD hx.symm
    clear hx
    have a0 : wr.cell? ⟨b, off + k * 6, none⟩ = some (.int .i64 x.server) := by simpa using hcc wr HB.out.1 0 _ (by rw [HX.out]; rfl)
    have a1 : wr.cell? ⟨b, off + k * 6 + 1, none⟩ = some (.int .i64 x.kind) := hcc wr HB.out.1 1 _ (by rw [HX.out]; rfl)
    have a2 : wr.cell? ⟨b, off + k * 6 + 2, none⟩ = some (.int .i64 x.view) := hcc wr HB.out.1 2 _ (by rw [HX.out]; rfl)
    have a3 : wr.cell? ⟨b, off + k * 6 + 3, none⟩ = some (.int .i64 x.slot) := hcc wr HB.out.1 3 _ (by rw [HX.out]; rfl)
    have a4 : wr.cell? ⟨b, off + k * 6 + 4, none⟩ = some (.string ⟨x.digest.toArray⟩) := hcc wr HB.out.1 4 _ (by rw [HX.out]; rfl)
    have a5 : wr.cell? ⟨b, off + k * 6 + 5, none⟩ = some (.string ⟨x.sig.toArray⟩) := hcc wr HB.out.1 5 _ (by rw [HX.out]; rfl)
    have k0 := HB.out.2.c1
    have k1 := HB.out.2.f1
    have hgl := HB.out.2.lt
    have HT := hD (all_take l sgShort k hlt)
    have HS : Hid (∀ q : Bool, q = (t || !(l.take k).all sgShort || !sgShort x) → CkTo w g o (t || !(l.take (k + 1)).all sgShort) ((wr.setCell ⟨g, 1, none⟩ (.bool q)).alloc (.cells #[.int .i64 x.server, .int .i64 x.kind, .int .i64 x.view, .int .i64 x.slot, .string ⟨x.digest.toArray⟩, .string ⟨x.sig.toArray⟩] 42))) :=
     hD (fun q hq => ((HB.out.set1 q).alloc _).eq rfl (by rw [hq, HT.out, HX.out]; cases t <;> cases (l.take k).all sgShort <;> cases sgShort x <;> rfl))
    clear hcc
    cases hq : (t || !(l.take k).all sgShort) with
    | true =>
     rw [hq] at k0
     have HQ := hD hq
     clear hq
     go_wp2_with fail
     go_roundw
     case rel => exact ⟨k + 1, by go_num, by omega, HS.out _ (by rw [HQ.out]; first | done | rfl)⟩
     case measure => simp [intOf]; omega
    | false =>
     rw [hq] at k0
     have HQ := hD hq
     clear hq
     by_cases h1 : x.digest.length ≤ 64
     all_goals
      go_wp2_with fail
      go_roundw
      case rel => exact ⟨k + 1, by go_num, by omega, HS.out _ (by rw [HQ.out, short_val' x]; first | done | (simp; omega))⟩
      case measure => simp [intOf]; omega
  · obtain rfl : k = l.length := by omega
    have HE : Hid (CkTo w g o (t || !l.all sgShort) wr) := hD (by simpa using HB.out)
    go_wp2_with fail
    go_end0
    exact ⟨rfl, HE.out⟩
set_option maxRecDepth 100000 in
set_option maxHeartbeats 2000000 in
theorem cert_any (g : Nat) (o t : Bool) (A : Option Addr) (c : Nat) (l : List Sg) (w : World) (hk : Ck w g o t) (hr : RdN g w 6 A l.length (l.flatMap sgC)) (hn : l.length ≤ 1099511627776) :
    Calls Tryz.prog 119 #[.pointer (some ⟨g, 0, none⟩), .slice A l.length c] w (RetCk w g o (t || !certShort l)) := by
 have HS : Hid (∀ q : Bool, Calls Tryz.prog 84 #[.pointer (some ⟨g, 0, none⟩), .slice A l.length c] (w.setCell ⟨g, 1, none⟩ (.bool q)) (RetCk (w.setCell ⟨g, 1, none⟩ (.bool q)) g o (q || !l.all sgShort))) :=
  hD (fun q => signed_any g o q A c l _ (hk.set1 q) ⟨hr.len, fun hj => by
   obtain ⟨b, off, e, hl, hne, hc⟩ := hr.cells hj
   exact ⟨b, off, e, by simpa using hl, hne, fun j u hu => (World.cell?_setCell_other _ _ _ _ (by first | (simp; done) | (simp; omega))).trans (hc j u hu)⟩⟩ hn)
 have k0 := hk.c1
 have k1 := hk.f1
 have hgl := hk.lt
 have HK := hD hk
 have HE : Hid (∀ (q : Bool) (w' : World), q = (t || !decide (l.length ≤ 12)) → CkTo (w.setCell ⟨g, 1, none⟩ (.bool q)) g o (q || !l.all sgShort) w' → CkTo w g o (t || !certShort l) w') :=
  hD (fun q w' hq h => (((CkTo.refl hk).set1 q).trans h).eq rfl (by rw [hq]; unfold certShort; cases t <;> cases l.all sgShort <;> cases decide (l.length ≤ 12) <;> rfl))
 clear hk hr
 cases t with
 | true =>
  go_enter Tryz.func119, Tryz.ntmps119
  go_wp2_with fail
  refine (HS.out _).mono ?_
  rintro e w1 ⟨rfl, b1⟩
  have B1 := hD b1
  clear b1
  go_wp2_with fail
  go_end0
  exact ⟨rfl, HE.out _ _ rfl B1.out⟩
 | false =>
  go_enter Tryz.func119, Tryz.ntmps119
  go_wp2_with fail
  refine (HS.out _).mono ?_
  rintro e w1 ⟨rfl, b1⟩
  have B1 := hD b1
  clear b1
  go_wp2_with fail
  go_end0
  exact ⟨rfl, HE.out _ _ (long_val _ 12) B1.out⟩
open Go.RowKit
theorem rdN_new (w : World) (g k n : Nat) (cs : List Value) (T : TypeId) (h : cs.length = n * k) (hg : g < w.heap.size) : RdN g (w.alloc (.cells cs.toArray T)) k (some ⟨w.heap.size, 0, none⟩) n cs :=
 ⟨h, fun _ => ⟨w.heap.size, 0, rfl, by simp, by omega, fun j u hu => by rw [← add_off]; exact cell_new w cs T _ rfl j u hu⟩⟩
theorem RdN.kept {g k n : Nat} {w w' : World} {A : Option Addr} {xs : List Value} (h : RdN g w k A n xs) (hg : w.grownBy w' (some g)) : RdN g w' k A n xs :=
 ⟨h.len, fun hj => by
  obtain ⟨b, o, e, hl, hne, hc⟩ := h.cells hj
  exact ⟨b, o, e, Nat.lt_of_lt_of_le hl hg.size, hne, fun j u hu => (hg.cell_far ⟨b, o + j, none⟩ hl (by simp; omega)).trans (hc j u hu)⟩⟩
theorem one_signed (g : Nat) (o t : Bool) (x : Sg) (w : World) (hk : Ck w g o t) {h : Nat} (hh : w.heap.size = h) :
    Calls Tryz.prog 84 #[.pointer (some ⟨g, 0, none⟩), .slice (some ⟨h, 0, none⟩) 1 1] (w.alloc (.cells #[.int .i64 x.server, .int .i64 x.kind, .int .i64 x.view, .int .i64 x.slot, .string ⟨x.digest.toArray⟩, .string ⟨x.sig.toArray⟩] 42))
     fun e w' => e = .returned (.tuple #[]) ∧ CkTo w g o (t || !sgShort x) w' := by
 subst hh
 have h1 := signed_any g o t (some ⟨w.heap.size, 0, none⟩) 1 [x] _ (hk.below (below_new w (.cells (sgC x).toArray 42))) (by simpa using rdN_new w g 6 1 (sgC x) 42 rfl hk.lt) (by simp)
 refine Calls.mono h1 fun e w' ⟨he, hc⟩ => ⟨he, ⟨(World.grownBy_alloc w _ _).trans hc.1, ?_⟩⟩
 have := hc.2
 simpa using this
theorem box_kept {w w' : World} {g b : Nat} (hg : w.grownBy w' (some g)) (hb : b < w.heap.size) (hne : b ≠ g) (j : Nat) {v : Value} (h : w.cell? ⟨b, j, none⟩ = some v) : w'.cell? ⟨b, j, none⟩ = some v :=
 (hg.cell_far ⟨b, j, none⟩ hb (by simp; omega)).trans h
theorem new_cell (W : World) (cs : List Value) (T : TypeId) (b : Nat) (hb : b = W.heap.size) (j : Nat) (v : Value) (h : cs[j]? = some v) : (W.alloc (.cells cs.toArray T)).cell? ⟨b, j, none⟩ = some v := by
 have := cell_new W cs T b hb j v h
 rwa [add_off, Nat.zero_add] at this
set_option maxRecDepth 100000 in
set_option maxHeartbeats 4000000 in
theorem entryCk_any (g : Nat) (o t : Bool) (d : De) (w : World) (hk : Ck w g o t) (hr : RdN g w 6 d.cert.a d.cert.l.length (d.cert.l.flatMap sgC)) (hn : d.cert.l.length ≤ 1099511627776) :
    Calls Tryz.prog 86 #[.pointer (some ⟨g, 0, none⟩), .agg #[.int .i64 d.view, .string ⟨d.value.toArray⟩, .slice d.cert.a d.cert.l.length d.cert.c]] w (RetCk w g (o || !num d.view) (t || !deShort d)) := by
 have HN := hD (fun w' => number_any d.view w')
 have HS : Hid (∀ q1 q2 : Bool, q1 = (o || !num d.view) → q2 = (t || !decide (d.value.length ≤ 2000)) → Calls Tryz.prog 119 #[.pointer (some ⟨g, 0, none⟩), .slice d.cert.a d.cert.l.length d.cert.c] (((w.setCell ⟨g, 0, none⟩ (.bool q1)).setCell ⟨g, 1, none⟩ (.bool q2)).alloc (.cells #[.int .i64 d.view, .string ⟨d.value.toArray⟩, .slice d.cert.a d.cert.l.length d.cert.c] 103)) (RetCk w g (o || !num d.view) (t || !deShort d))) :=
  hD (fun q1 q2 h1 h2 => by
   have hc := (((CkTo.refl hk).set0 q1).set1 q2).alloc (.cells #[.int .i64 d.view, .string ⟨d.value.toArray⟩, .slice d.cert.a d.cert.l.length d.cert.c] 103)
   refine (cert_any g q1 q2 d.cert.a d.cert.c d.cert.l _ hc.2 (hr.kept hc.1) hn).mono fun e w' ⟨he, h⟩ => ⟨he, (hc.trans h).eq h1 ?_⟩
   rw [h2]; unfold deShort; cases t <;> cases decide (d.value.length ≤ 2000) <;> cases certShort d.cert.l <;> rfl)
 have k0 := hk.c0
 have k1 := hk.c1
 have k2 := hk.f0
 have k3 := hk.f1
 have hgl := hk.lt
 clear hk hr
 cases o <;> cases t
 all_goals
  go_enter Tryz.func86, Tryz.ntmps86
  go_wp2_with (go_at_call 82; refine (HN.out _).mono ?_; rintro e w' ⟨rfl, rfl⟩)
  refine (HS.out _ _ (by first | rfl | simp) (by first | rfl | exact long_val _ 2000 | simp)).mono ?_
  rintro e w1 ⟨rfl, b1⟩
  have B1 := hD b1
  clear b1
  go_wp2_with fail
  go_end0
  exact ⟨rfl, B1.out⟩
set_option maxRecDepth 100000 in
set_option maxHeartbeats 16000000 in
theorem statusCk_any (g : Nat) (o t : Bool) (s : St) (w : World) (hk : Ck w g o t) (hr : RdN g w 6 s.cert.a s.cert.l.length (s.cert.l.flatMap sgC)) (hn : s.cert.l.length ≤ 1099511627776) :
    Calls Tryz.prog 85 #[.pointer (some ⟨g, 0, none⟩), .agg #[.int .i64 s.server, .int .i64 s.view, .int .i64 s.length, .int .i64 s.lockView, .string ⟨s.lock.toArray⟩, .slice s.cert.a s.cert.l.length s.cert.c, .int .i64 s.signed.server, .int .i64 s.signed.kind, .int .i64 s.signed.view, .int .i64 s.signed.slot, .string ⟨s.signed.digest.toArray⟩, .string ⟨s.signed.sig.toArray⟩]] w (RetCk w g (o || !stRange s) (t || !stShort s)) := by
 have HN := hD (fun n w' => number_any n w')
 have HS : Hid (∀ q1 q2 : Bool, q1 = (o || !stRange s) → q2 = (t || !decide (s.lock.length ≤ 2000)) → Calls Tryz.prog 119 #[.pointer (some ⟨g, 0, none⟩), .slice s.cert.a s.cert.l.length s.cert.c] (((w.setCell ⟨g, 0, none⟩ (.bool q1)).setCell ⟨g, 1, none⟩ (.bool q2)).alloc (.cells #[.int .i64 s.server, .int .i64 s.view, .int .i64 s.length, .int .i64 s.lockView, .string ⟨s.lock.toArray⟩, .slice s.cert.a s.cert.l.length s.cert.c, .int .i64 s.signed.server, .int .i64 s.signed.kind, .int .i64 s.signed.view, .int .i64 s.signed.slot, .string ⟨s.signed.digest.toArray⟩, .string ⟨s.signed.sig.toArray⟩] 62)) fun e w1 => e = .returned (.tuple #[]) ∧ CkTo w g (o || !stRange s) (t || !(decide (s.lock.length ≤ 2000) && certShort s.cert.l)) w1 ∧ w.heap.size < w1.heap.size ∧
     (w1.cell? ⟨w.heap.size, 6, none⟩ = some (.int .i64 s.signed.server) ∧ w1.cell? ⟨w.heap.size, 7, none⟩ = some (.int .i64 s.signed.kind) ∧ w1.cell? ⟨w.heap.size, 8, none⟩ = some (.int .i64 s.signed.view) ∧ w1.cell? ⟨w.heap.size, 9, none⟩ = some (.int .i64 s.signed.slot) ∧ w1.cell? ⟨w.heap.size, 10, none⟩ = some (.string ⟨s.signed.digest.toArray⟩) ∧ w1.cell? ⟨w.heap.size, 11, none⟩ = some (.string ⟨s.signed.sig.toArray⟩))) :=
  hD (fun q1 q2 h1 h2 => by
   have hc := (((CkTo.refl hk).set0 q1).set1 q2).alloc (.cells #[.int .i64 s.server, .int .i64 s.view, .int .i64 s.length, .int .i64 s.lockView, .string ⟨s.lock.toArray⟩, .slice s.cert.a s.cert.l.length s.cert.c, .int .i64 s.signed.server, .int .i64 s.signed.kind, .int .i64 s.signed.view, .int .i64 s.signed.slot, .string ⟨s.signed.digest.toArray⟩, .string ⟨s.signed.sig.toArray⟩] 62)
   refine (cert_any g q1 q2 s.cert.a s.cert.c s.cert.l _ hc.2 (hr.kept hc.1) hn).mono fun e w' ⟨he, h⟩ => ⟨he, (hc.trans h).eq h1 ?_, ?_, ?_⟩
   · rw [h2]; cases t <;> cases decide (s.lock.length ≤ 2000) <;> cases certShort s.cert.l <;> rfl
   · have := h.1.size; simp at this; omega
   · have hgl := hk.lt
     refine ⟨?_, ?_, ?_, ?_, ?_, ?_⟩ <;> exact box_kept h.1 (by simp) (by omega) _ (new_cell _ (stC s) _ _ (by simp) _ _ rfl))
 have HO : Hid (∀ w1, CkTo w g (o || !stRange s) (t || !(decide (s.lock.length ≤ 2000) && certShort s.cert.l)) w1 → ∀ h, w1.heap.size = h → Calls Tryz.prog 84 #[.pointer (some ⟨g, 0, none⟩), .slice (some ⟨h, 0, none⟩) 1 1] (w1.alloc (.cells #[.int .i64 s.signed.server, .int .i64 s.signed.kind, .int .i64 s.signed.view, .int .i64 s.signed.slot, .string ⟨s.signed.digest.toArray⟩, .string ⟨s.signed.sig.toArray⟩] 42)) (RetCk w g (o || !stRange s) (t || !stShort s))) :=
  hD (fun w1 hc h hh => (one_signed g _ _ s.signed w1 hc.2 hh).mono fun e w' ⟨he, hq⟩ => ⟨he, (hc.trans hq).eq rfl (by unfold stShort; cases t <;> cases decide (s.lock.length ≤ 2000) <;> cases certShort s.cert.l <;> cases sgShort s.signed <;> rfl)⟩)
 have k0 := hk.c0
 have k1 := hk.c1
 have k2 := hk.f0
 have k3 := hk.f1
 have hgl := hk.lt
 clear hk hr
 cases o <;> cases t
 all_goals
  go_enter Tryz.func85, Tryz.ntmps85
  go_wp2_with (go_at_call 82; refine (HN.out _ _).mono ?_; rintro e w' ⟨rfl, rfl⟩)
 all_goals
  refine (HS.out _ _ (by first | rfl | (simp [stRange, *]; done) | (simp [stRange, *]; omega)) (by first | rfl | exact long_val _ 2000 | simp)).mono ?_
  rintro e w1 ⟨rfl, b1, hz, a6, a7, a8, a9, a10, a11⟩
  have B1 := hD b1
  clear b1
  go_wp2_with fail
  refine (HO.out _ B1.out _ rfl).mono ?_
  rintro e w2 ⟨rfl, b2⟩
  have B2 := hD b2
  clear b2
  go_wp2_with fail
  go_end0
  exact ⟨rfl, B2.out⟩
open Go.RowKit
set_option maxHeartbeats 1000000 in
theorem eCk_any (g : Nat) (o t : Bool) (w : World) (hk : Ck w g o t) : Calls Tryz.prog 88 #[.pointer (some ⟨g, 0, none⟩)] w fun e w' => e = .returned (.int .i64 (if o then 7 else if t then 3 else 0)) ∧ w = w' := by
 have k0 := hk.c0
 have k1 := hk.c1
 clear hk
 cases o <;> cases t
 all_goals
  go_enter Tryz.func88, Tryz.ntmps88
  go_wp2_with fail
  go_ret
  exact ⟨rfl, rfl⟩
def RetKind (k : Int) (w : World) (e : Ending) (w' : World) : Prop := e = .returned (.tuple #[.string ⟨(kwS k).toArray⟩, .int .i64 (kwF k)]) ∧ w = w'
theorem kw_none (k : Int) (h : k < 1 ∨ 12 < k) : kwS k = [] ∧ kwF k = 0 := by
 unfold kwS kwF
 refine ⟨?_, ?_⟩ <;> (repeat rw [if_neg (by omega)])
set_option maxRecDepth 100000 in
set_option maxHeartbeats 8000000 in
theorem kind_any (k : Int) (w : World) : Calls Tryz.prog 81 #[.int .i64 k] w (RetKind k w) := by
 by_cases h : k < 1 ∨ 12 < k
 · have HK := hD (kw_none k h)
   have n1 : (k == 1) = false := by simp; omega
   have n2 : (k == 2) = false := by simp; omega
   have n3 : (k == 3) = false := by simp; omega
   have n4 : (k == 4) = false := by simp; omega
   have n5 : (k == 5) = false := by simp; omega
   have n6 : (k == 6) = false := by simp; omega
   have n7 : (k == 7) = false := by simp; omega
   have n8 : (k == 8) = false := by simp; omega
   have n9 : (k == 9) = false := by simp; omega
   have n10 : (k == 10) = false := by simp; omega
   have n11 : (k == 11) = false := by simp; omega
   have n12 : (k == 12) = false := by simp; omega
   clear h
   go_enter Tryz.func81, Tryz.ntmps81
   go_wp2_with fail
   go_ret2
   exact ⟨by rw [HK.out.1, HK.out.2]; rfl, rfl⟩
 · have h2 : k = 1 ∨ k = 2 ∨ k = 3 ∨ k = 4 ∨ k = 5 ∨ k = 6 ∨ k = 7 ∨ k = 8 ∨ k = 9 ∨ k = 10 ∨ k = 11 ∨ k = 12 := by omega
   clear h
   rcases h2 with rfl | rfl | rfl | rfl | rfl | rfl | rfl | rfl | rfl | rfl | rfl | rfl
   all_goals
    go_enter Tryz.func81, Tryz.ntmps81
    go_wp2_with fail
    go_ret2
    exact ⟨rfl, rfl⟩
set_option maxRecDepth 100000 in
set_option maxHeartbeats 4000000 in
theorem empty_any (x : Sn) (w : World) (h1 : x.chunks.l.length ≤ 1099511627776) (h2 : x.proof.l.length ≤ 1099511627776) (h3 : x.chain.l.length ≤ 1099511627776) :
    Calls Tryz.prog 118 #[.agg #[.int .i64 x.slot, .string ⟨x.root.toArray⟩, .slice x.chunks.a x.chunks.l.length x.chunks.c, .slice x.proof.a x.proof.l.length x.proof.c, .slice x.chain.a x.chain.l.length x.chain.c]] w (RetBool (emptySn x) w) := by
 by_cases c1 : x.slot = 0
 · have d1 : (x.slot == 0) = true := by simp [c1]
   by_cases c2 : x.root = []
   · have HZ : Hid (((x.chunks.l.length : Int) + x.proof.l.length + x.chain.l.length == 0) = emptySn x) := hD (by
       show _ = (decide (x.slot = 0) && decide (x.root = []) && decide (x.chunks.l.length + x.proof.l.length + x.chain.l.length = 0))
       rw [decide_eq_true c1, decide_eq_true c2, Bool.true_and, Bool.true_and, Bool.eq_iff_iff, beq_iff_eq, decide_eq_true_eq]; omega)
     have HC1 := hD c1
     clear c1
     go_enter Tryz.func118, Tryz.ntmps118
     go_wp2_with fail
     go_ret
     exact ret_bl HZ.out.symm (below_new _ _)
   · have HZ : Hid (emptySn x = false) := hD (by simp [emptySn, c2])
     have HC1 := hD c1
     clear c1
     go_enter Tryz.func118, Tryz.ntmps118
     go_wp2_with fail
     go_ret
     exact ret_bl HZ.out (below_new _ _)
 · have HZ : Hid (emptySn x = false) := hD (by simp [emptySn, c1])
   have d1 : (x.slot == 0) = false := by simp [c1]
   go_enter Tryz.func118, Tryz.ntmps118
   go_wp2_with fail
   go_ret
   exact ret_bl HZ.out (below_new _ _)
open Go.RowKit
theorem root_val (x : Sn) : (decide ((64 : Int) < x.root.length) || decide ((20 : Int) < x.chain.l.length)) = (false || !(decide (x.root.length ≤ 64) && decide (x.chain.l.length ≤ 20))) := by
 rw [show (20 : Int) = ((20 : Nat) : Int) from rfl, show (64 : Int) = ((64 : Nat) : Int) from rfl, long_val, long_val]
 cases decide (x.root.length ≤ 64) <;> cases decide (x.chain.l.length ≤ 20) <;> rfl
theorem root_no (x : Sn) (h : ¬ x.root.length ≤ 64) : true = (false || !(decide (x.root.length ≤ 64) && decide (x.chain.l.length ≤ 20))) := by simp [h]
def snRange (x : Sn) : Bool := num x.slot && x.chain.l.all hoRange
def snShort (x : Sn) : Bool := decide (x.root.length ≤ 64) && decide (x.chain.l.length ≤ 20) && certShort x.proof.l && x.chain.l.all fun h => deShort h.entry
theorem hoC_lenV (x : Ho) : (hoC x).length = 4 := rfl
set_option maxRecDepth 100000 in
set_option maxHeartbeats 16000000 in
theorem snapshotCk_any (g : Nat) (o t : Bool) (x : Sn) (w : World) (hk : Ck w g o t) (hr : RdN g w 6 x.proof.a x.proof.l.length (x.proof.l.flatMap sgC)) (hn : x.proof.l.length ≤ 1099511627776)
    (hc : RdN g w 4 x.chain.a x.chain.l.length (x.chain.l.flatMap hoC)) (hm : x.chain.l.length ≤ 1099511627776) (he : ∀ h ∈ x.chain.l, RdN g w 6 h.entry.cert.a h.entry.cert.l.length (h.entry.cert.l.flatMap sgC) ∧ h.entry.cert.l.length ≤ 1099511627776) :
    Calls Tryz.prog 87 #[.pointer (some ⟨g, 0, none⟩), .agg #[.int .i64 x.slot, .string ⟨x.root.toArray⟩, .slice x.chunks.a x.chunks.l.length x.chunks.c, .slice x.proof.a x.proof.l.length x.proof.c, .slice x.chain.a x.chain.l.length x.chain.c]] w (RetCk w g (o || !snRange x) (t || !snShort x)) := by
 have HN := hD (fun n w' => number_any n w')
 have HR := hD hc
 have HI := hD he
 have HS : Hid (∀ q1 q2 : Bool, q1 = (o || !num x.slot) → q2 = (t || !(decide (x.root.length ≤ 64) && decide (x.chain.l.length ≤ 20))) → Calls Tryz.prog 119 #[.pointer (some ⟨g, 0, none⟩), .slice x.proof.a x.proof.l.length x.proof.c] (((w.setCell ⟨g, 0, none⟩ (.bool q1)).setCell ⟨g, 1, none⟩ (.bool q2)).alloc (.cells #[.int .i64 x.slot, .string ⟨x.root.toArray⟩, .slice x.chunks.a x.chunks.l.length x.chunks.c, .slice x.proof.a x.proof.l.length x.proof.c, .slice x.chain.a x.chain.l.length x.chain.c] 48)) fun e w1 => e = .returned (.tuple #[]) ∧ ∃ o1 t1, Hid (o1 = (o || !num x.slot) ∧ t1 = (t || !(decide (x.root.length ≤ 64) && decide (x.chain.l.length ≤ 20) && certShort x.proof.l))) ∧ CkTo w g o1 t1 w1 ∧ w.heap.size < w1.heap.size ∧
     w1.cell? ⟨w.heap.size, 4, none⟩ = some (.slice x.chain.a x.chain.l.length x.chain.c)) :=
  hD (fun q1 q2 h1 h2 => by
   have hc := (((CkTo.refl hk).set0 q1).set1 q2).alloc (.cells #[.int .i64 x.slot, .string ⟨x.root.toArray⟩, .slice x.chunks.a x.chunks.l.length x.chunks.c, .slice x.proof.a x.proof.l.length x.proof.c, .slice x.chain.a x.chain.l.length x.chain.c] 48)
   refine (cert_any g q1 q2 x.proof.a x.proof.c x.proof.l _ hc.2 (hr.kept hc.1) hn).mono fun e w' ⟨he, h⟩ => ⟨he, _, _, hD ⟨rfl, rfl⟩, (hc.trans h).eq h1 ?_, ?_, ?_⟩
   · rw [h2]; cases t <;> cases decide (x.root.length ≤ 64) <;> cases decide (x.chain.l.length ≤ 20) <;> cases certShort x.proof.l <;> rfl
   · have := h.1.size; simp at this; omega
   · have hgl := hk.lt
     exact box_kept h.1 (by simp) (by omega) _ (new_cell _ (snC x) _ _ (by simp) _ _ rfl))
 have HE : Hid (∀ o1 t1 w', (o1 = (o || !num x.slot) ∧ t1 = (t || !(decide (x.root.length ≤ 64) && decide (x.chain.l.length ≤ 20) && certShort x.proof.l))) → CkTo w g (o1 || !x.chain.l.all hoRange) (t1 || !x.chain.l.all fun h => deShort h.entry) w' → CkTo w g (o || !snRange x) (t || !snShort x) w') :=
  hD (fun o1 t1 w' he h => h.eq (by rw [he.1]; unfold snRange; cases o <;> cases num x.slot <;> cases x.chain.l.all hoRange <;> rfl) (by
   rw [he.2]; unfold snShort; cases t <;> cases decide (x.root.length ≤ 64) <;> cases decide (x.chain.l.length ≤ 20) <;> cases certShort x.proof.l <;> cases (x.chain.l.all fun h => deShort h.entry) <;> rfl))
 have k0 := hk.c0
 have k1 := hk.c1
 have k2 := hk.f0
 have k3 := hk.f1
 have hgl := hk.lt
 clear hk hr hc he
 cases o <;> cases t
 all_goals
  go_enter Tryz.func87, Tryz.ntmps87
  go_wp2_with (go_at_call 82; refine (HN.out _ _).mono ?_; rintro e w' ⟨rfl, rfl⟩)
 all_goals
  refine (HS.out _ _ (by first | rfl | simp) (by first | rfl | (simp [*]; done) | exact root_val x | exact root_no x (by omega))).mono ?_
  rintro e w1 ⟨rfl, o1, t1, HQ1, b1, hz, a4⟩
  have B1 := hD b1
  clear b1 k0 k1 k2 k3
  go_wp2_with fail
  go_loopw [45] (fun i wr => ∃ k : Nat, i = .int .i64 k ∧ k ≤ x.chain.l.length ∧ CkTo w g (o1 || !(x.chain.l.take k).all hoRange) (t1 || !(x.chain.l.take k).all fun h => deShort h.entry) wr) (fun i _ => x.chain.l.length - (intOf i).toNat)
  case atStart => exact ⟨0, rfl, by omega, by simpa using B1.out⟩
  case round =>
   clear a4
   obtain ⟨k, rfl, hk, hb⟩ := hrel
   have HB := hD hb
   clear hb
   by_cases hlt : k < x.chain.l.length
   · have i0' : (0 : Int) ≤ (k : Int) := by omega
     have i1 : (k : Int) < (x.chain.l.length : Int) := by omega
     obtain ⟨b, off, hxa, hg, hne, hcc⟩ := HR.out.at hoC_lenV (by omega) hlt
     have HXA := hD hxa
     have hrun : Sem.run Tryz.prog (Instr.indexAt 46 (.slice x.chain.a x.chain.l.length x.chain.c) (.int .i64 k)) wr = .ok (Value.pointer (some ⟨b, off + k * 4, none⟩)) wr := by
      rw [HXA.out]; go_simp
     clear hxa
     obtain ⟨y, hy⟩ : ∃ y, y = x.chain.l[k] := ⟨_, rfl⟩
     have HY := hD hy.symm
     have HM := hD (hy ▸ List.getElem_mem hlt : y ∈ x.chain.l)
     clear hy
     have a0 : wr.cell? ⟨b, off + k * 4, none⟩ = some (.int .i64 y.slot) := by simpa using hcc wr HB.out.1 0 _ (by rw [HY.out]; rfl)
     have a1 : wr.cell? ⟨b, off + k * 4 + 1, none⟩ = some (.int .i64 y.entry.view) := hcc wr HB.out.1 1 _ (by rw [HY.out]; rfl)
     have a2 : wr.cell? ⟨b, off + k * 4 + 2, none⟩ = some (.string ⟨y.entry.value.toArray⟩) := hcc wr HB.out.1 2 _ (by rw [HY.out]; rfl)
     have a3 : wr.cell? ⟨b, off + k * 4 + 3, none⟩ = some (.slice y.entry.cert.a y.entry.cert.l.length y.entry.cert.c) := hcc wr HB.out.1 3 _ (by rw [HY.out]; rfl)
     have k0 := HB.out.2.c0
     have k1 := HB.out.2.c1
     have k2 := HB.out.2.f0
     have k3 := HB.out.2.f1
     have hgl := HB.out.2.lt
     have HT := hD (all_take x.chain.l hoRange k hlt)
     have HU := hD (all_take x.chain.l (fun h => deShort h.entry) k hlt)
     have HW : Hid (∀ q : Bool, q = (o1 || !(x.chain.l.take k).all hoRange || !num y.slot) → Calls Tryz.prog 86 #[.pointer (some ⟨g, 0, none⟩), .agg #[.int .i64 y.entry.view, .string ⟨y.entry.value.toArray⟩, .slice y.entry.cert.a y.entry.cert.l.length y.entry.cert.c]] ((wr.setCell ⟨g, 0, none⟩ (.bool q)).alloc (.cells #[.int .i64 y.slot, .int .i64 y.entry.view, .string ⟨y.entry.value.toArray⟩, .slice y.entry.cert.a y.entry.cert.l.length y.entry.cert.c] 166)) (RetCk w g (o1 || !(x.chain.l.take (k + 1)).all hoRange) (t1 || !(x.chain.l.take (k + 1)).all fun h => deShort h.entry))) :=
      hD (fun q hq => by
       have hc := ((HB.out.set0 q).alloc (.cells #[.int .i64 y.slot, .int .i64 y.entry.view, .string ⟨y.entry.value.toArray⟩, .slice y.entry.cert.a y.entry.cert.l.length y.entry.cert.c] 166))
       refine (entryCk_any g q _ y.entry _ hc.2 ((HI.out y HM.out).1.kept hc.1) (HI.out y HM.out).2).mono fun e w' ⟨he, h⟩ => ⟨he, (hc.trans h).eq ?_ ?_⟩
       · rw [hq, HT.out, HY.out, show hoRange y = (num y.slot && num y.entry.view) from rfl]; cases o1 <;> cases (x.chain.l.take k).all hoRange <;> cases num y.slot <;> cases num y.entry.view <;> rfl
       · rw [HU.out, HY.out]; cases t1 <;> cases (x.chain.l.take k).all (fun h => deShort h.entry) <;> cases deShort y.entry <;> rfl)
     clear hcc
     cases hq : (o1 || !(x.chain.l.take k).all hoRange)
     all_goals
      rw [hq] at k0
      have HQ := hD hq
      clear hq
      go_wp2_with (go_at_call 82; refine (HN.out _ _).mono ?_; rintro e w' ⟨rfl, rfl⟩)
      refine (HW.out _ (by rw [HQ.out]; first | done | rfl | simp)).mono ?_
      rintro e w2 ⟨rfl, b2⟩
      have B2 := hD b2
      clear b2
      go_wp2_with fail
      go_roundw
      case rel => exact ⟨k + 1, by go_num, by omega, B2.out⟩
      case measure => simp [intOf]; omega
   · obtain rfl : k = x.chain.l.length := by omega
     have HF : Hid (CkTo w g (o1 || !x.chain.l.all hoRange) (t1 || !x.chain.l.all fun h => deShort h.entry) wr) := hD (by simpa using HB.out)
     go_wp2_with fail
     go_end0
     exact ⟨rfl, HE.out _ _ _ HQ1.out HF.out⟩
end Go.Proofs.YtikpcebhcnjkhaaGreatDoor
