/- The contracts of entry's requests: Itoa, Atoi, same, in, valid. -/
import Derived.Test.YthmoplkleopahaaDoorWireH
import Derived.Test.YthmoplkleopahaaDoorEntR
import Derived.Lib.SmallJoins
import Derived.Lib.AppendIntMem
import Derived.Lib.AtoiErrMem
namespace Go.Proofs.YthmoplkleopahaaDoor
open Go.RowKit

/-- what the library's variables hold -/
structure Env (w : World) : Prop where
  pow : Lib.TabIs Tryd.prog w "internal/strconv.uint64pow10" .u64 Lib.pow10Tab
  syn : ∃ t p, w.cell? ⟨0, 0, none⟩ = some (.iface t p)
  rng : ∃ t p, w.cell? ⟨1, 0, none⟩ = some (.iface t p)
theorem Env.below {w w' : World} (h : Env w) (hb : Below w.heap.size w w') : Env w' where
  pow := Go.Joins.tab_stays (g := (Tryd.prog.globalNamed "internal/strconv.uint64pow10").getD 0) (by kernel_rfl) h.pow hb (Nat.le_refl _)
  syn := by
    obtain ⟨t, p, e⟩ := h.syn
    exact ⟨t, p, (hb.cell (p := ⟨0, 0, none⟩) (Lib.lt_of_cell e)).trans e⟩
  rng := by
    obtain ⟨t, p, e⟩ := h.rng
    exact ⟨t, p, (hb.cell (p := ⟨1, 0, none⟩) (Lib.lt_of_cell e)).trans e⟩
theorem itoa_any (n : Int) (h0 : -9223372036854775808 ≤ n) (h1 : n ≤ 9223372036854775807) (w : World) (he : Env w) :
    Calls Tryd.prog 39 #[.int .i64 n] w (RetStr (Lib.itoa n) w) :=
  (Tryd.strconv_Itoa n h0 h1 w he.pow).mono fun _ _ ⟨he, k, os, hw⟩ => ⟨he, by rw [hw]; exact Lib.below_grow _ w (Nat.le_refl _) k os⟩
def RetNum (n : Int) (w : World) (e : Ending) (w' : World) : Prop := (∃ x, e = .returned (.tuple #[.int .i64 n, x])) ∧ Below w.heap.size w w'
theorem atoi_any (s : ByteArray) (hs : s.size ≤ 281474976710656) (w : World) (he : Env w) :
    Calls Tryd.prog 36 #[.string s] w (RetNum (atoi0 s.data.toList) w) := by
  unfold atoi0
  cases h : Lib.atoiAll s.data.toList with
  | ok v =>
    refine (Tryd.strconv_Atoi_ok s (by omega) v h w).mono ?_
    rintro e w' ⟨rfl, rfl | ⟨t, rfl⟩⟩
    · exact ⟨⟨_, rfl⟩, Below.refl _ _⟩
    · exact ⟨⟨_, rfl⟩, Lib.bytesWorld_below _ _ _⟩
  | range =>
    obtain ⟨t, p, hc⟩ := he.rng
    refine (Any.strconv_Atoi_range Tryd.laysC172 s hs h _ w hc (.inr ⟨_, _, rfl⟩)).mono ?_
    rintro e w' ⟨N, rfl, _, _, hb⟩
    exact ⟨⟨_, rfl⟩, hb⟩
  | _ =>
    obtain ⟨t, p, hc⟩ := he.syn
    refine (Any.strconv_Atoi_syntax Tryd.laysC172 s hs h _ w hc (.inr ⟨_, _, rfl⟩)).mono ?_
    rintro e w' ⟨N, rfl, _, _, hb⟩
    exact ⟨⟨_, rfl⟩, hb⟩
/-- the cells of a request -/
def rqC (r : Rq) : List Value := [.int .i64 r.client, .int .i64 r.number, .string ⟨r.op.toArray⟩]
theorem rqC_len (r : Rq) : (rqC r).length = 3 := rfl
def RetBool (b : Bool) (w : World) (e : Ending) (w' : World) : Prop := e = .returned (.bool b) ∧ Below w.heap.size w w'
theorem ret_bl {b c : Bool} {w w' : World} (h : b = c) (hb : Below w.heap.size w w') : RetBool b w (.returned (.bool c)) w' := ⟨by rw [h], hb⟩
set_option maxRecDepth 100000 in
set_option maxHeartbeats 2000000 in
theorem same_any (a b : Rq) (w : World) : Calls Tryd.prog 59 #[.agg #[.int .i64 a.client, .int .i64 a.number, .string ⟨a.op.toArray⟩], .agg #[.int .i64 b.client, .int .i64 b.number, .string ⟨b.op.toArray⟩]] w (RetBool (same a b) w) := by
  have B0 : Hid (Below w.heap.size w ((w.alloc (.cells #[.int .i64 a.client, .int .i64 a.number, .string ⟨a.op.toArray⟩] 42)).alloc (.cells #[.int .i64 b.client, .int .i64 b.number, .string ⟨b.op.toArray⟩] 42))) :=
    Lib.hid ((below_new w _).alloc (by simp) _)
  cases h1 : (a.client == b.client) with
  | true =>
    have HS : Hid (same a b = (a.number == b.number)) := Lib.hid (by unfold same; rw [h1]; rfl)
    go_enter Tryd.func59, Tryd.ntmps59
    go_wp2_with fail
    all_goals
      go_ret
      exact ret_bl (by rw [HS.out]) B0.out
  | false =>
    have HS : Hid (same a b = false) := Lib.hid (by unfold same; rw [h1]; rfl)
    go_enter Tryd.func59, Tryd.ntmps59
    go_wp2_with fail
    all_goals
      go_ret
      exact ret_bl HS.out B0.out
/-- the closure of in: the request that it captured lies in block b -/
def Holds1 (r : Rq) (b : Nat) (w : World) : Prop := b < w.heap.size ∧ w.cell? ⟨b, 0, none⟩ = some (.int .i64 r.client) ∧ w.cell? ⟨b, 1, none⟩ = some (.int .i64 r.number) ∧ w.cell? ⟨b, 2, none⟩ = some (.string ⟨r.op.toArray⟩)
theorem Holds1.below {r : Rq} {b : Nat} {w w' : World} (h : Holds1 r b w) (hb : Below w.heap.size w w') : Holds1 r b w' :=
  ⟨Nat.lt_of_lt_of_le h.1 hb.size, (hb.cell (p := ⟨b, 0, none⟩) h.1).trans h.2.1, (hb.cell (p := ⟨b, 1, none⟩) h.1).trans h.2.2.1, (hb.cell (p := ⟨b, 2, none⟩) h.1).trans h.2.2.2⟩
theorem holds1_new (r : Rq) (w : World) : Holds1 r w.heap.size (w.alloc (.cells #[.int .i64 r.client, .int .i64 r.number, .string ⟨r.op.toArray⟩] 42)) := by
  have h := fun j (v : Value) (hj : (rqC r)[j]? = some v) => cell_new w (rqC r) 42 w.heap.size rfl j v hj
  simp only [add_off, Nat.zero_add] at h
  exact ⟨by simp, h 0 _ rfl, h 1 _ rfl, h 2 _ rfl⟩
set_option maxRecDepth 100000 in
set_option maxHeartbeats 2000000 in
theorem inCl_any (x r : Rq) (b : Nat) (w : World) (h : Holds1 r b w) : Calls Tryd.prog 58 #[.agg #[.int .i64 x.client, .int .i64 x.number, .string ⟨x.op.toArray⟩], .pointer (some ⟨b, 0, none⟩)] w (RetBool (same x r) w) := by
  have B0 := Lib.hid (below_new w (.cells #[.int .i64 x.client, .int .i64 x.number, .string ⟨x.op.toArray⟩] 42))
  have HS := Lib.hid (fun w => same_any x r w)
  obtain ⟨h0, h1, h2, h3⟩ := h.below B0.out
  clear h
  go_enter Tryd.func58, Tryd.ntmps58
  go_wp2_with fail
  refine (HS.out _).mono ?_
  rintro e w' ⟨rfl, hb⟩
  go_wp2_with fail
  go_ret
  exact ret_bl rfl (B0.out.trans (hb.mono (by simp)))
def RetIdx (b : Bool) (n : Nat) (w : World) (e : Ending) (w' : World) : Prop := (∃ i : Int, e = .returned (.int .i64 i) ∧ -1 ≤ i ∧ i ≤ n ∧ decide (0 ≤ i) = b) ∧ Below w.heap.size w w'
theorem any_take {α : Type} (l : List α) (p : α → Bool) (k : Nat) (h : k < l.length) : (l.take (k + 1)).any p = ((l.take k).any p || p l[k]) := by
  rw [List.take_succ_eq_append_getElem h, List.any_append]; simp
theorem any_of_take {α : Type} (l : List α) (p : α → Bool) (k : Nat) (h : (l.take k).any p = true) : l.any p = true := by
  rw [List.any_eq_true] at h ⊢
  obtain ⟨x, hx, hp⟩ := h
  exact ⟨x, List.mem_of_mem_take hx, hp⟩
set_option maxRecDepth 100000 in
set_option maxHeartbeats 2000000 in
theorem idx_any (A : Option Addr) (c : Nat) (l : List Rq) (r : Rq) (b : Nat) (w : World) (hr : Rd w 3 A l.length (l.flatMap rqC)) (hn : l.length ≤ 9223372036854775807) (h : Holds1 r b w) :
    Calls Tryd.prog 72 #[.slice A l.length c, .func (.func 58) #[] #[.pointer (some ⟨b, 0, none⟩)]] w (RetIdx (inB l r) l.length w) := by
  have HR := Lib.hid hr
  have HH := Lib.hid h
  have hb0 := h.1
  clear hr h
  go_enter Tryd.func72, Tryd.ntmps72
  go_wp2_with fail
  go_loopw [8] (fun i wr => ∃ k : Nat, i = .int .i64 k ∧ k ≤ l.length ∧ inB (l.take k) r = false ∧ Below w.heap.size w wr) (fun i _ => l.length - (intOf i).toNat)
  case atStart => exact ⟨0, rfl, by omega, rfl, Below.refl _ _⟩
  case round =>
    obtain ⟨k, rfl, hk, hno, hb⟩ := hrel
    have HB := Lib.hid hb
    have HN := Lib.hid hno
    clear hb hno
    by_cases hlt : k < l.length
    · have i0 : (0 : Int) ≤ (k : Int) := by omega
      have i1 : (k : Int) < (l.length : Int) := by omega
      obtain ⟨g, o, rfl, hg, hcc⟩ := HR.out.at rqC_len (by omega) hlt
      have a0 := hcc wr HB.out 0 _ rfl
      have a1 := hcc wr HB.out 1 _ rfl
      have a2 := hcc wr HB.out 2 _ rfl
      clear hcc
      simp only [Nat.add_zero] at a0
      have HC := Lib.hid (inCl_any l[k] r b wr (HH.out.below HB.out))
      cases hs : same l[k] r with
      | true =>
        have HY : Hid (inB l r = true) := Lib.hid (any_of_take l _ (k + 1) (by rw [any_take l _ k hlt, hs]; simp))
        rw [hs] at HC
        clear hs
        go_wp2_with fail
        refine HC.out.mono ?_
        rintro e w' ⟨rfl, b1⟩
        go_wp2_with fail
        go_ret
        exact ⟨⟨k, rfl, by omega, by omega, by rw [HY.out]; simp⟩, bon HB.out b1⟩
      | false =>
        have HY : Hid (inB (l.take (k + 1)) r = false) := Lib.hid (by unfold inB; rw [any_take l _ k hlt, hs]; simpa [inB] using HN.out)
        rw [hs] at HC
        clear hs
        go_wp2_with fail
        refine HC.out.mono ?_
        rintro e w' ⟨rfl, b1⟩
        have B1 := Lib.hid b1
        clear b1
        go_wp2_with fail
        go_roundw
        case rel => exact ⟨k + 1, by go_num, by omega, HY.out, bon HB.out B1.out⟩
        case measure => simp [intOf]; omega
    · have HY : Hid (inB l r = false) := Lib.hid (by have := HN.out; rwa [List.take_of_length_le (by omega)] at this)
      go_wp2_with fail
      go_ret
      exact ⟨⟨-1, rfl, by omega, by omega, by rw [HY.out]; decide⟩, HB.out⟩
set_option maxRecDepth 100000 in
set_option maxHeartbeats 2000000 in
theorem contains_any (A : Option Addr) (c : Nat) (l : List Rq) (r : Rq) (b : Nat) (w : World) (hr : Rd w 3 A l.length (l.flatMap rqC)) (hn : l.length ≤ 9223372036854775807) (h : Holds1 r b w) :
    Calls Tryd.prog 57 #[.slice A l.length c, .func (.func 58) #[] #[.pointer (some ⟨b, 0, none⟩)]] w (RetBool (inB l r) w) := by
  have HI := Lib.hid (idx_any A c l r b w hr hn h)
  clear hr h
  go_enter Tryd.func57, Tryd.ntmps57
  go_wp2_with fail
  refine HI.out.mono ?_
  rintro e w' ⟨⟨i, rfl, h1, h2, h3⟩, hb⟩
  have H3 := Lib.hid h3
  have HB := Lib.hid hb
  clear h3 hb
  go_wp2_with fail
  all_goals
    go_ret
    exact ret_bl (by rw [← H3.out]) HB.out
set_option maxRecDepth 100000 in
set_option maxHeartbeats 2000000 in
theorem in_any (A : Option Addr) (c : Nat) (l : List Rq) (r : Rq) (w : World) (hr : Rd w 3 A l.length (l.flatMap rqC)) (hn : l.length ≤ 9223372036854775807) :
    Calls Tryd.prog 43 #[.slice A l.length c, .agg #[.int .i64 r.client, .int .i64 r.number, .string ⟨r.op.toArray⟩]] w (RetBool (inB l r) w) := by
  have B0 := Lib.hid (below_new w (.cells #[.int .i64 r.client, .int .i64 r.number, .string ⟨r.op.toArray⟩] 42))
  have HC := Lib.hid (contains_any A c l r w.heap.size _ (hr.below B0.out) hn (holds1_new r w))
  clear hr
  go_enter Tryd.func43, Tryd.ntmps43
  go_wp2_with fail
  refine HC.out.mono ?_
  rintro e w' ⟨rfl, hb⟩
  go_wp2_with fail
  go_ret
  exact ret_bl rfl (B0.out.trans (hb.mono (by simp)))
end Go.Proofs.YthmoplkleopahaaDoor
