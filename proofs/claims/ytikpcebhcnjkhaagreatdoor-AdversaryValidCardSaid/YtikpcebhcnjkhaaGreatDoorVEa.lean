/- Entries of the log in plain words: their errors, values, what a value reads as, batches, fresh requests. -/
import Derived.Lib.ItoaMem
import Derived.Lib.AtoiAll
import Derived.Lib.AtoiAllCases
import Derived.Laws.Bits64b
import Derived.Lib.BitFns
import Derived.Lib.SmallJoins
import Derived.Lib.AppendIntMem
import Derived.Lib.AtoiErrMem
import Derived.Deep.RegionWith
import Derived.Deep.RegionHeld3
import Derived.Lib.ItoaLen
import Derived.Deep.AppendLies
import Derived.Laws.OwnMore
import Derived.Test.YtikpcebhcnjkhaaGreatDoorVPl
import Derived.Test.YtikpcebhcnjkhaaGreatDoorVWa
namespace Go.Proofs.YtikpcebhcnjkhaaGreatDoor.Q40
open Go.Proofs.YtikpcebhcnjkhaaGreatDoor
structure Rq where
 (client number : Int) (op : List UInt8)
 deriving DecidableEq
structure En where
 (kind cfg : Int) (rs : List Rq)
 deriving DecidableEq
def same (a b : Rq) : Bool := a.client == b.client && a.number == b.number
def inB (l : List Rq) (r : Rq) : Bool := l.any fun x => same x r
def vRq (done : List Rq) (r : Rq) : Int :=
 if r.client < 0 ∨ 6 ≤ r.client ∨ r.number < 1 ∨ 1000000 < r.number then 7 else if r.op = [] then 9 else if 200 < r.op.length then 3 else if inB done r then 5 else 0
def vRqs : List Rq → List Rq → Int
 | _, [] => 0
 | done, r :: t => if vRq done r = 0 then vRqs (done ++ [r]) t else vRq done r
def vEn (e : En) : Int :=
 if e.kind = 1 then (if e.cfg ≠ 0 then 1 else if 8 < e.rs.length then 3 else vRqs [] e.rs)
 else if e.kind = 2 then (if e.cfg < 0 ∨ 6 ≤ e.cfg ∨ e.rs ≠ [] then 1 else 0)
 else if e.kind = 3 then (if e.cfg ≠ 0 ∨ e.rs ≠ [] then 1 else 0) else 1
def wBatch : List UInt8 := [98, 97, 116, 99, 104]
def wJoin : List UInt8 := [106, 111, 105, 110]
def wFinish : List UInt8 := [102, 105, 110, 105, 115, 104]
def rqS (r : Rq) : List (List UInt8) := [Lib.itoa r.client, Lib.itoa r.number, r.op]
def strs (e : En) : List (List UInt8) := if e.kind = 2 then [wJoin, Lib.itoa e.cfg] else if e.kind = 3 then [wFinish] else wBatch :: e.rs.flatMap rqS
def valE (e : En) : List UInt8 := putList (strs e)
/-! digits -/
open Go.Proofs.YtikpcebhcnjkhaaGreatDoor
/-! the text of a value -/
/-! batches -/
def fitsB (k b : Int) (l : List Rq) : Bool := decide ((l.length : Int) ≤ k) && decide (((valE ⟨1, 0, l⟩).length : Int) ≤ b)
structure BatOk (k b : Int) (pre : List Rq) (out : List (List Rq)) : Prop where
 all : out.flatten = pre
 ne : ∀ x ∈ out, x ≠ []
 fit : ∀ x ∈ out, fitsB k b x = true
 apart : ∀ (i : Nat) (h : i + 1 < out.length) (r : Rq) (t : List Rq), out[i + 1] = r :: t → fitsB k b (out[i] ++ [r]) = false
/-! fresh requests -/
def fresh (seen : List Rq) : List Rq → List Rq → List Rq
 | out, [] => out
 | out, r :: t => if inB (seen ++ out) r = true then fresh seen out t else fresh seen (out ++ [r]) t
open Go.Proofs.YtikpcebhcnjkhaaGreatDoor
open Go.RowKit
structure Env (w : World) : Prop where
 pow : Lib.TabIs Tryz.prog w "internal/strconv.uint64pow10" .u64 Lib.pow10Tab
 syn : ∃ t p, w.cell? ⟨1, 0, none⟩ = some (.iface t p)
 rng : ∃ t p, w.cell? ⟨2, 0, none⟩ = some (.iface t p)
theorem Env.below {w w' : World} (h : Env w) (hb : Below w.heap.size w w') : Env w' where
 pow := Go.Joins.tab_stays (g := (Tryz.prog.globalNamed "internal/strconv.uint64pow10").getD 0) (by kernel_rfl) h.pow hb (Nat.le_refl _)
 syn := by
  obtain ⟨t, p, e⟩ := h.syn
  exact ⟨t, p, (hb.cell (p := ⟨1, 0, none⟩) (Lib.lt_of_cell e)).trans e⟩
 rng := by
  obtain ⟨t, p, e⟩ := h.rng
  exact ⟨t, p, (hb.cell (p := ⟨2, 0, none⟩) (Lib.lt_of_cell e)).trans e⟩
structure EnvP (w : World) : Prop where
 pow : Lib.TabIs Tryz.prog w "internal/strconv.uint64pow10" .u64 Lib.pow10Tab
theorem EnvP.below {w w' : World} (h : EnvP w) (hb : Below w.heap.size w w') : EnvP w' where
 pow := Go.Joins.tab_stays (g := (Tryz.prog.globalNamed "internal/strconv.uint64pow10").getD 0) (by kernel_rfl) h.pow hb (Nat.le_refl _)
theorem Env.p {w : World} (h : Env w) : EnvP w := ⟨h.pow⟩
instance (w : World) : Coe (Env w) (EnvP w) := ⟨Env.p⟩
theorem itoa_any (n : Int) (h0 : -9223372036854775808 ≤ n) (h1 : n ≤ 9223372036854775807) (w : World) (he : EnvP w) :
    Calls Tryz.prog 101 #[.int .i64 n] w (RetStr (Lib.itoa n) w) :=
 (Tryz.strconv_Itoa n h0 h1 w he.pow).mono fun _ _ ⟨he, k, os, hw⟩ => ⟨he, by rw [hw]; exact Lib.below_grow _ w (Nat.le_refl _) k os⟩
def rqC (r : Rq) : List Value := [.int .i64 r.client, .int .i64 r.number, .string ⟨r.op.toArray⟩]
theorem rqC_len (r : Rq) : (rqC r).length = 3 := rfl
def RetBool (b : Bool) (w : World) (e : Ending) (w' : World) : Prop := e = .returned (.bool b) ∧ Below w.heap.size w w'
theorem ret_bl {b c : Bool} {w w' : World} (h : b = c) (hb : Below w.heap.size w w') : RetBool b w (.returned (.bool c)) w' := ⟨by rw [h], hb⟩
set_option maxRecDepth 100000 in
set_option maxHeartbeats 2000000 in
theorem same_any (a b : Rq) (w : World) : Calls Tryz.prog 156 #[.agg #[.int .i64 a.client, .int .i64 a.number, .string ⟨a.op.toArray⟩], .agg #[.int .i64 b.client, .int .i64 b.number, .string ⟨b.op.toArray⟩]] w (RetBool (same a b) w) := by
 have B0 : Hid (Below w.heap.size w ((w.alloc (.cells #[.int .i64 a.client, .int .i64 a.number, .string ⟨a.op.toArray⟩] 133)).alloc (.cells #[.int .i64 b.client, .int .i64 b.number, .string ⟨b.op.toArray⟩] 133))) :=
  hD ((below_new w _).alloc (by simp) _)
 cases h1 : (a.client == b.client) with
 | true =>
  have HS : Hid (same a b = (a.number == b.number)) := hD (by unfold same; rw [h1]; rfl)
  go_enter Tryz.func156, Tryz.ntmps156
  go_wp2_with fail
  all_goals
   go_ret
   exact ret_bl (by rw [HS.out]) B0.out
 | false =>
  have HS : Hid (same a b = false) := hD (by unfold same; rw [h1]; rfl)
  go_enter Tryz.func156, Tryz.ntmps156
  go_wp2_with fail
  all_goals
   go_ret
   exact ret_bl HS.out B0.out
def Holds1 (r : Rq) (b : Nat) (w : World) : Prop := b < w.heap.size ∧ w.cell? ⟨b, 0, none⟩ = some (.int .i64 r.client) ∧ w.cell? ⟨b, 1, none⟩ = some (.int .i64 r.number) ∧ w.cell? ⟨b, 2, none⟩ = some (.string ⟨r.op.toArray⟩)
theorem Holds1.below {r : Rq} {b : Nat} {w w' : World} (h : Holds1 r b w) (hb : Below w.heap.size w w') : Holds1 r b w' :=
 ⟨Nat.lt_of_lt_of_le h.1 hb.size, (hb.cell (p := ⟨b, 0, none⟩) h.1).trans h.2.1, (hb.cell (p := ⟨b, 1, none⟩) h.1).trans h.2.2.1, (hb.cell (p := ⟨b, 2, none⟩) h.1).trans h.2.2.2⟩
theorem holds1_new (r : Rq) (w : World) : Holds1 r w.heap.size (w.alloc (.cells #[.int .i64 r.client, .int .i64 r.number, .string ⟨r.op.toArray⟩] 133)) := by
 have h := fun j (v : Value) (hj : (rqC r)[j]? = some v) => cell_new w (rqC r) 133 w.heap.size rfl j v hj
 simp only [add_off, Nat.zero_add] at h
 exact ⟨by simp, h 0 _ rfl, h 1 _ rfl, h 2 _ rfl⟩
set_option maxRecDepth 100000 in
set_option maxHeartbeats 2000000 in
theorem inCl_any (x r : Rq) (b : Nat) (w : World) (h : Holds1 r b w) : Calls Tryz.prog 155 #[.agg #[.int .i64 x.client, .int .i64 x.number, .string ⟨x.op.toArray⟩], .pointer (some ⟨b, 0, none⟩)] w (RetBool (same x r) w) := by
 have B0 := hD (below_new w (.cells #[.int .i64 x.client, .int .i64 x.number, .string ⟨x.op.toArray⟩] 133))
 have HS := hD (fun w => same_any x r w)
 obtain ⟨h0, h1, h2, h3⟩ := h.below B0.out
 clear h
 go_enter Tryz.func155, Tryz.ntmps155
 go_wp2_with fail
 refine (HS.out _).mono ?_
 rintro e w' ⟨rfl, hb⟩
 go_wp2_with fail
 go_ret
 exact ret_bl rfl (B0.out.trans (hb.mono (by simp)))
def RetIdx (b : Bool) (n : Nat) (w : World) (e : Ending) (w' : World) : Prop := (∃ i : Int, e = .returned (.int .i64 i) ∧ -1 ≤ i ∧ i ≤ n ∧ decide (0 ≤ i) = b) ∧ Below w.heap.size w w'
theorem any_take {α : Type} (l : List α) (p : α → Bool) (k : Nat) (h : k < l.length) : (l.take (k + 1)).any p = ((l.take k).any p || p l[k]) := by
 rw [List.take_succ_eq_append_getElem h, List.any_append]; simp
theorem any_of_take {α : Type} (l : List α) (p : α → Bool) (k : Nat) (h : (l.take k).any p = true) : l.any p = true := by
 rw [List.any_eq_true] at h ⊢
 obtain ⟨x, hx, hp⟩ := h
 exact ⟨x, List.mem_of_mem_take hx, hp⟩
set_option maxRecDepth 100000 in
set_option maxHeartbeats 2000000 in
theorem idx_any (A : Option Addr) (c : Nat) (l : List Rq) (r : Rq) (b : Nat) (w : World) (hr : Rd w 3 A l.length (l.flatMap rqC)) (hn : l.length ≤ 9223372036854775807) (h : Holds1 r b w) :
    Calls Tryz.prog 168 #[.slice A l.length c, .func (.func 155) #[] #[.pointer (some ⟨b, 0, none⟩)]] w (RetIdx (inB l r) l.length w) := by
 have HR := hD hr
 have HH := hD h
 have hb0 := h.1
 clear hr h
 go_enter Tryz.func168, Tryz.ntmps168
 go_wp2_with fail
 go_loopw [8] (fun i wr => ∃ k : Nat, i = .int .i64 k ∧ k ≤ l.length ∧ inB (l.take k) r = false ∧ Below w.heap.size w wr) (fun i _ => l.length - (intOf i).toNat)
 case atStart => exact ⟨0, rfl, by omega, rfl, Below.refl _ _⟩
 case round =>
  obtain ⟨k, rfl, hk, hno, hb⟩ := hrel
  have HB := hD hb
  have HN := hD hno
  clear hb hno
  by_cases hlt : k < l.length
  · have i0 : (0 : Int) ≤ (k : Int) := by omega
    have i1 : (k : Int) < (l.length : Int) := by omega
    obtain ⟨g, o, rfl, hg, hcc⟩ := HR.out.at rqC_len (by omega) hlt
    have a0 := hcc wr HB.out 0 _ rfl
    have a1 := hcc wr HB.out 1 _ rfl
    have a2 := hcc wr HB.out 2 _ rfl
    clear hcc
    simp only [Nat.add_zero] at a0
    have HC := hD (inCl_any l[k] r b wr (HH.out.below HB.out))
    cases hs : same l[k] r with
    | true =>
     have HY : Hid (inB l r = true) := hD (any_of_take l _ (k + 1) (by rw [any_take l _ k hlt, hs]; simp))
     rw [hs] at HC
     clear hs
     go_wp2_with fail
     refine HC.out.mono ?_
     rintro e w' ⟨rfl, b1⟩
     go_wp2_with fail
     go_ret
     exact ⟨⟨k, rfl, by omega, by omega, by rw [HY.out]; simp⟩, bon HB.out b1⟩
    | false =>
     have HY : Hid (inB (l.take (k + 1)) r = false) := hD (by unfold inB; rw [any_take l _ k hlt, hs]; simpa [inB] using HN.out)
     rw [hs] at HC
     clear hs
     go_wp2_with fail
     refine HC.out.mono ?_
     rintro e w' ⟨rfl, b1⟩
     have B1 := hD b1
     clear b1
     go_wp2_with fail
     go_roundw
     case rel => exact ⟨k + 1, by go_num, by omega, HY.out, bon HB.out B1.out⟩
     case measure => simp [intOf]; omega
  · have HY : Hid (inB l r = false) := hD (by have := HN.out; rwa [List.take_of_length_le (by omega)] at this)
    go_wp2_with fail
    go_ret
    exact ⟨⟨-1, rfl, by omega, by omega, by rw [HY.out]; decide⟩, HB.out⟩
set_option maxRecDepth 100000 in
set_option maxHeartbeats 2000000 in
theorem contains_any (A : Option Addr) (c : Nat) (l : List Rq) (r : Rq) (b : Nat) (w : World) (hr : Rd w 3 A l.length (l.flatMap rqC)) (hn : l.length ≤ 9223372036854775807) (h : Holds1 r b w) :
    Calls Tryz.prog 154 #[.slice A l.length c, .func (.func 155) #[] #[.pointer (some ⟨b, 0, none⟩)]] w (RetBool (inB l r) w) := by
 have HI := hD (idx_any A c l r b w hr hn h)
 clear hr h
 go_enter Tryz.func154, Tryz.ntmps154
 go_wp2_with fail
 refine HI.out.mono ?_
 rintro e w' ⟨⟨i, rfl, h1, h2, h3⟩, hb⟩
 have H3 := hD h3
 have HB := hD hb
 clear h3 hb
 go_wp2_with fail
 all_goals
  go_ret
  exact ret_bl (by rw [← H3.out]) HB.out
set_option maxRecDepth 100000 in
set_option maxHeartbeats 2000000 in
theorem in_any (A : Option Addr) (c : Nat) (l : List Rq) (r : Rq) (w : World) (hr : Rd w 3 A l.length (l.flatMap rqC)) (hn : l.length ≤ 9223372036854775807) :
    Calls Tryz.prog 132 #[.slice A l.length c, .agg #[.int .i64 r.client, .int .i64 r.number, .string ⟨r.op.toArray⟩]] w (RetBool (inB l r) w) := by
 have B0 := hD (below_new w (.cells #[.int .i64 r.client, .int .i64 r.number, .string ⟨r.op.toArray⟩] 133))
 have HC := hD (contains_any A c l r w.heap.size _ (hr.below B0.out) hn (holds1_new r w))
 clear hr
 go_enter Tryz.func132, Tryz.ntmps132
 go_wp2_with fail
 refine HC.out.mono ?_
 rintro e w' ⟨rfl, hb⟩
 go_wp2_with fail
 go_ret
 exact ret_bl rfl (B0.out.trans (hb.mono (by simp)))
open Go.Proofs.YtikpcebhcnjkhaaGreatDoor
open Go.RowKit
theorem flat_take {α : Type} (C : α → List Value) (m : Nat) (hC : ∀ x, (C x).length = m) (l : List α) (k : Nat) : (l.take k).flatMap C = (l.flatMap C).take (k * m) := by
 induction l generalizing k with
 | nil => simp
 | cons x r ih =>
  cases k with
  | zero => simp
  | succ k =>
   rw [List.take_succ_cons, List.flatMap_cons, List.flatMap_cons, ih, List.take_append, hC, Nat.succ_mul, List.take_of_length_le (l := C x) (by rw [hC]; omega), show k * m + m - m = k * m from by omega]
theorem rdTk {α : Type} {w : World} {m : Nat} {A : Option Addr} {l : List α} {C : α → List Value} (h : Rd w m A l.length (l.flatMap C)) (hC : ∀ x, (C x).length = m) {k : Nat} (hk : k ≤ l.length) : Rd w m A k ((l.take k).flatMap C) := by
 have h2 : (l.take k).length = k := by simp; omega
 refine ⟨by rw [flat_len C m hC, h2], fun hp => ?_⟩
 have hle : (l.take k).flatMap C = (l.flatMap C).take (k * m) := flat_take C m hC l k
 rw [hle, List.length_take] at hp
 obtain ⟨b, o, e, hb, hc⟩ := h.cells (by omega)
 refine ⟨b, o, e, hb, fun j u hu => hc j u ?_⟩
 rw [hle, List.getElem?_take] at hu
 split at hu
 · exact hu
 · simp at hu
def RetErr (n : Int) (w : World) (e : Ending) (w' : World) : Prop := e = .returned (.int .i64 n) ∧ Below w.heap.size w w'
theorem ret_er {n m : Int} {w w' : World} (h : n = m) (hb : Below w.heap.size w w') : RetErr n w (.returned (.int .i64 m)) w' := ⟨by rw [h], hb⟩
theorem vRqs_at (l : List Rq) (k : Nat) (h : k < l.length) : vRqs (l.take k) (l.drop k) = if vRq (l.take k) l[k] = 0 then vRqs (l.take (k + 1)) (l.drop (k + 1)) else vRq (l.take k) l[k] := by
 rw [List.drop_eq_getElem_cons h, vRqs, List.take_succ_eq_append_getElem h]
theorem vRq_ways (done : List Rq) (r : Rq) : ((r.client < 0 ∨ 6 ≤ r.client ∨ r.number < 1 ∨ 1000000 < r.number) ∧ vRq done r = 7) ∨
    ((0 ≤ r.client ∧ r.client < 6 ∧ 1 ≤ r.number ∧ r.number ≤ 1000000) ∧ ((r.op = [] ∧ vRq done r = 9) ∨ (r.op ≠ [] ∧ ((200 < r.op.length ∧ vRq done r = 3) ∨ (r.op.length ≤ 200 ∧ ((inB done r = true ∧ vRq done r = 5) ∨ (inB done r = false ∧ vRq done r = 0))))))) := by
 unfold vRq
 by_cases h1 : r.client < 0 ∨ 6 ≤ r.client ∨ r.number < 1 ∨ 1000000 < r.number
 · exact .inl ⟨h1, by rw [if_pos h1]⟩
 · rw [if_neg h1]
   refine .inr ⟨by omega, ?_⟩
   by_cases h2 : r.op = []
   · exact .inl ⟨h2, by rw [if_pos h2]⟩
   · rw [if_neg h2]
     refine .inr ⟨h2, ?_⟩
     by_cases h3 : 200 < r.op.length
     · exact .inl ⟨h3, by rw [if_pos h3]⟩
     · rw [if_neg h3]
       refine .inr ⟨by omega, ?_⟩
       cases inB done r
       · exact .inr ⟨rfl, by simp⟩
       · exact .inl ⟨rfl, by simp⟩
set_option maxRecDepth 100000 in
set_option maxHeartbeats 4000000 in
theorem valid_any (A : Option Addr) (c : Nat) (l : List Rq) (w : World) (hr : Rd w 3 A l.length (l.flatMap rqC)) (hc : l.length ≤ c) (_hcc : c ≤ 9223372036854775807) (hn : l.length ≤ 9223372036854775807) (ho : ∀ r ∈ l, r.op.length ≤ 9223372036854775807) :
    Calls Tryz.prog 99 #[.slice A l.length c] w (RetErr (vRqs [] l) w) := by
 have HR := hD hr
 have HOp := hD ho
 clear hr ho
 go_enter Tryz.func99, Tryz.ntmps99
 go_wp2_with fail
 go_loopw [7] (fun i wr => ∃ k : Nat, i = .int .i64 k ∧ k ≤ l.length ∧ vRqs [] l = vRqs (l.take k) (l.drop k) ∧ Below w.heap.size w wr) (fun i _ => l.length - (intOf i).toNat)
 case atStart => exact ⟨0, rfl, by omega, rfl, Below.refl _ _⟩
 case round =>
  obtain ⟨k, rfl, hk, hv, hb⟩ := hrel
  have HB := hD hb
  have HV := hD hv
  clear hb hv
  by_cases hlt : k < l.length
  · have i0 : (0 : Int) ≤ (k : Int) := by omega
    have i1 : (k : Int) < (l.length : Int) := by omega
    have HT := hD (rdTk HR.out rqC_len (Nat.le_of_lt hlt))
    obtain ⟨g, o, rfl, hg, hcell⟩ := HR.out.at rqC_len (by omega) hlt
    have a0 := hcell wr HB.out 0 _ rfl
    have a1 := hcell wr HB.out 1 _ rfl
    have a2 := hcell wr HB.out 2 _ rfl
    clear hcell
    simp only [Nat.add_zero] at a0
    have HV1 := hD (HV.out.trans (vRqs_at l k hlt))
    have hop := HOp.out l[k] (List.getElem_mem hlt)
    rcases vRq_ways (l.take k) l[k] with ⟨hbad, he⟩ | ⟨⟨r0, r1, r2, r3⟩, hrest⟩
    · have HY : Hid (vRqs [] l = 7) := hD (by rw [HV1.out, he, if_neg (by decide)])
      clear he
      rcases hbad with h | h | h | h
      all_goals
       go_wp2_with fail
       all_goals
        go_ret
        exact ret_er HY.out (HB.out.alloc HB.out.size _)
    · have q0 : ¬ l[k].client < 0 := by omega
      have q1 : ¬ 6 ≤ l[k].client := by omega
      have q2 : ¬ l[k].number < 1 := by omega
      have q3 : ¬ 1000000 < l[k].number := by omega
      rcases hrest with ⟨hop0, he⟩ | ⟨hop0, ⟨hlen, he⟩ | ⟨hlen, ⟨hin, he⟩ | ⟨hin, he⟩⟩⟩
      · have HY : Hid (vRqs [] l = 9) := hD (by rw [HV1.out, he, if_neg (by decide)])
        have hemp : l[k].op.isEmpty = true := by rw [hop0]; rfl
        clear he hop0
        go_wp2_with fail
        go_ret
        exact ret_er HY.out (HB.out.alloc HB.out.size _)
      · have HY : Hid (vRqs [] l = 3) := hD (by rw [HV1.out, he, if_neg (by decide)])
        have hemp : l[k].op.isEmpty = false := by simpa using hop0
        clear he hop0
        go_wp2_with fail
        go_ret
        exact ret_er HY.out (HB.out.alloc HB.out.size _)
      · have HY : Hid (vRqs [] l = 5) := hD (by rw [HV1.out, he, if_neg (by decide)])
        have hemp : l[k].op.isEmpty = false := by simpa using hop0
        have HI : Hid (∀ W, Below w.heap.size w W → Calls Tryz.prog 132 #[.slice (some ⟨g, o, none⟩) k c, .agg #[.int .i64 l[k].client, .int .i64 l[k].number, .string ⟨l[k].op.toArray⟩]] W fun e w' => e = .returned (.bool true) ∧ Below w.heap.size w w') := hD (fun W hb => by
         have hl : (l.take k).length = k := by simp; omega
         have h := in_any (some ⟨g, o, none⟩) c (l.take k) l[k] W (by rw [hl]; exact HT.out.below hb) (by rw [hl]; omega)
         rw [hl, hin] at h
         exact h.mono fun _ _ ⟨a, b⟩ => ⟨a, bon hb b⟩)
        have hbw : Below w.heap.size w (wr.alloc (.cells #[.int .i64 l[k].client, .int .i64 l[k].number, .string ⟨l[k].op.toArray⟩] 133)) := HB.out.alloc HB.out.size _
        clear he hop0 hin
        go_wp2_with fail
        go_region_with (go_at_call 132; refine (HI.out _ (by repeat' (first | assumption | apply Below.drew))).mono ?_; rintro e w2 ⟨rfl, b2⟩)
        all_goals
         go_wp2_with fail
         go_ret
         exact ret_er HY.out ‹_›
      · have HV2 : Hid (vRqs [] l = vRqs (l.take (k + 1)) (l.drop (k + 1))) := hD (by rw [HV1.out, he, if_pos rfl])
        have hemp : l[k].op.isEmpty = false := by simpa using hop0
        have HI : Hid (∀ W, Below w.heap.size w W → Calls Tryz.prog 132 #[.slice (some ⟨g, o, none⟩) k c, .agg #[.int .i64 l[k].client, .int .i64 l[k].number, .string ⟨l[k].op.toArray⟩]] W fun e w' => e = .returned (.bool false) ∧ Below w.heap.size w w') := hD (fun W hb => by
         have hl : (l.take k).length = k := by simp; omega
         have h := in_any (some ⟨g, o, none⟩) c (l.take k) l[k] W (by rw [hl]; exact HT.out.below hb) (by rw [hl]; omega)
         rw [hl, hin] at h
         exact h.mono fun _ _ ⟨a, b⟩ => ⟨a, bon hb b⟩)
        have hbw : Below w.heap.size w (wr.alloc (.cells #[.int .i64 l[k].client, .int .i64 l[k].number, .string ⟨l[k].op.toArray⟩] 133)) := HB.out.alloc HB.out.size _
        clear he hop0 hin
        go_wp2_with fail
        go_region_with (go_at_call 132; refine (HI.out _ (by repeat' (first | assumption | apply Below.drew))).mono ?_; rintro e w2 ⟨rfl, b2⟩)
        all_goals
         have B2 := hD b2
         clear b2
         go_wp2_with fail
         go_roundw
         case rel => exact ⟨k + 1, by go_num, by omega, HV2.out, B2.out⟩
         case measure => simp [intOf]; omega
  · have HY : Hid (vRqs [] l = 0) := hD (by rw [HV.out, List.drop_eq_nil_of_le (by omega), vRqs])
    go_wp2_with fail
    go_ret
    exact ret_er HY.out HB.out
open Go.Proofs.YtikpcebhcnjkhaaGreatDoor
open Go.RowKit
structure RqIn (w : World) (A : Option Addr) (c : Nat) (l : List Rq) : Prop where
 rd : Rd w 3 A l.length (l.flatMap rqC)
 cap : l.length ≤ c
 big : c ≤ 9223372036854775807
 few : l.length ≤ 9223372036854775807
 op : ∀ r ∈ l, r.op.length ≤ 9223372036854775807
theorem RqIn.below {w w' : World} {A : Option Addr} {c : Nat} {l : List Rq} (h : RqIn w A c l) (hb : Below w.heap.size w w') : RqIn w' A c l := { h with rd := h.rd.below hb }
theorem vEn_join (cfg : Int) (rs : List Rq) : vEn ⟨2, cfg, rs⟩ = if cfg < 0 ∨ 6 ≤ cfg ∨ rs ≠ [] then 1 else 0 := by
 simp only [vEn]; rw [if_neg (by decide), if_pos trivial]
theorem vEn_finish (cfg : Int) (rs : List Rq) : vEn ⟨3, cfg, rs⟩ = if cfg ≠ 0 ∨ rs ≠ [] then 1 else 0 := by
 simp only [vEn]; rw [if_neg (by decide), if_neg (by decide), if_pos trivial]
theorem vEn_batch (cfg : Int) (rs : List Rq) : vEn ⟨1, cfg, rs⟩ = if cfg ≠ 0 then 1 else if 8 < rs.length then 3 else vRqs [] rs := by
 simp only [vEn]; rw [if_pos trivial]
theorem vEn_other (kind cfg : Int) (rs : List Rq) (h1 : kind ≠ 1) (h2 : kind ≠ 2) (h3 : kind ≠ 3) : vEn ⟨kind, cfg, rs⟩ = 1 := by
 simp only [vEn]; rw [if_neg h1, if_neg h2, if_neg h3]
theorem pos_of_ne {α : Type} {l : List α} (h : l ≠ []) : (0 : Int) < (l.length : Int) := by
 have := List.length_pos_iff.2 h
 omega
set_option maxRecDepth 100000 in
set_option maxHeartbeats 4000000 in
theorem enValid_any (kind cfg : Int) (rs : List Rq) (A : Option Addr) (c : Nat) (w : World) (h : RqIn w A c rs) :
    Calls Tryz.prog 68 #[.agg #[.int .i64 kind, .int .i64 cfg, .slice A rs.length c]] w (RetErr (vEn ⟨kind, cfg, rs⟩) w) := by
 have hlen := h.few
 have B0 := hD (below_new w (.cells #[.int .i64 kind, .int .i64 cfg, .slice A rs.length c] 95))
 have HV := hD (h.below B0.out)
 have HC := hD (valid_any A c rs _ HV.out.rd HV.out.cap HV.out.big HV.out.few HV.out.op)
 clear h
 by_cases k1 : kind = 1
 · subst k1
   by_cases c0 : cfg = 0
   · subst c0
     by_cases l8 : 8 < rs.length
     · have HY : Hid (vEn ⟨1, 0, rs⟩ = 3) := hD (by rw [vEn_batch, if_neg (by decide), if_pos l8])
       have l8' : (8 : Int) < (rs.length : Int) := by omega
       clear l8
       go_enter Tryz.func68, Tryz.ntmps68
       go_wp2_with fail
       go_ret
       exact ret_er HY.out B0.out
     · have HY : Hid (vEn ⟨1, 0, rs⟩ = vRqs [] rs) := hD (by rw [vEn_batch, if_neg (by decide), if_neg l8])
       have l8' : ¬ (8 : Int) < (rs.length : Int) := by omega
       clear l8
       go_enter Tryz.func68, Tryz.ntmps68
       go_wp2_with fail
       refine HC.out.mono ?_
       rintro e w' ⟨rfl, hb⟩
       go_wp2_with fail
       go_ret
       exact ret_er HY.out (bon B0.out hb)
   · have HY : Hid (vEn ⟨1, cfg, rs⟩ = 1) := hD (by rw [vEn_batch, if_pos c0])
     have c1 : (cfg == 0) = false := by simpa using c0
     have c2 : (cfg != 0) = true := by simpa using c0
     clear c0
     go_enter Tryz.func68, Tryz.ntmps68
     go_wp2_with fail
     go_ret
     exact ret_er HY.out B0.out
 · by_cases k2 : kind = 2
   · subst k2
     clear k1
     by_cases hbad : cfg < 0 ∨ 6 ≤ cfg ∨ rs ≠ []
     · have HY : Hid (vEn ⟨2, cfg, rs⟩ = 1) := hD (by rw [vEn_join, if_pos hbad])
       have hbad' : cfg < 0 ∨ 6 ≤ cfg ∨ (0 : Int) < (rs.length : Int) := by
        rcases hbad with h | h | h
        · exact .inl h
        · exact .inr (.inl h)
        · exact .inr (.inr (pos_of_ne h))
       clear hbad
       rcases hbad' with h | h | h
       all_goals
        go_enter Tryz.func68, Tryz.ntmps68
        go_wp2_with fail
        all_goals
         go_ret
         exact ret_er HY.out B0.out
     · have HY : Hid (vEn ⟨2, cfg, rs⟩ = 0) := hD (by rw [vEn_join, if_neg hbad])
       have q0 : ¬ cfg < 0 := fun h => hbad (.inl h)
       have q1 : ¬ 6 ≤ cfg := fun h => hbad (.inr (.inl h))
       have q2 : ¬ (0 : Int) < (rs.length : Int) := fun h => hbad (.inr (.inr (by intro h0; subst h0; simp at h)))
       clear hbad
       go_enter Tryz.func68, Tryz.ntmps68
       go_wp2_with fail
       go_ret
       exact ret_er HY.out B0.out
   · by_cases k3 : kind = 3
     · subst k3
       clear k1 k2
       by_cases c0 : cfg = 0
       · subst c0
         by_cases hr : rs = []
         · have HY : Hid (vEn ⟨3, 0, rs⟩ = 0) := hD (by rw [vEn_finish, if_neg (by simp [hr])])
           have q2 : ¬ (0 : Int) < (rs.length : Int) := by rw [hr]; simp
           clear hr
           go_enter Tryz.func68, Tryz.ntmps68
           go_wp2_with fail
           go_ret
           exact ret_er HY.out B0.out
         · have HY : Hid (vEn ⟨3, 0, rs⟩ = 1) := hD (by rw [vEn_finish, if_pos (.inr hr)])
           have q2 := pos_of_ne hr
           clear hr
           go_enter Tryz.func68, Tryz.ntmps68
           go_wp2_with fail
           go_ret
           exact ret_er HY.out B0.out
       · have HY : Hid (vEn ⟨3, cfg, rs⟩ = 1) := hD (by rw [vEn_finish, if_pos (.inl c0)])
         have c1 : (cfg == 0) = false := by simpa using c0
         have c2 : (cfg != 0) = true := by simpa using c0
         clear c0
         go_enter Tryz.func68, Tryz.ntmps68
         go_wp2_with fail
         go_ret
         exact ret_er HY.out B0.out
     · have HY : Hid (vEn ⟨kind, cfg, rs⟩ = 1) := hD (vEn_other kind cfg rs k1 k2 k3)
       have q1 : (kind == 1) = false := by simpa using k1
       have q2 : (kind == 2) = false := by simpa using k2
       have q3 : (kind == 3) = false := by simpa using k3
       clear k1 k2 k3
       go_enter Tryz.func68, Tryz.ntmps68
       go_wp2_with fail
       go_ret
       exact ret_er HY.out B0.out
open Go.Proofs.YtikpcebhcnjkhaaGreatDoor
open Go.RowKit
theorem strs_join (cfg : Int) (rs : List Rq) : strs ⟨2, cfg, rs⟩ = [wJoin, Lib.itoa cfg] := by simp [strs]
theorem strs_finish (cfg : Int) (rs : List Rq) : strs ⟨3, cfg, rs⟩ = [wFinish] := by simp [strs]
theorem strs_other (kind cfg : Int) (rs : List Rq) (h2 : kind ≠ 2) (h3 : kind ≠ 3) : strs ⟨kind, cfg, rs⟩ = wBatch :: rs.flatMap rqS := by
 simp only [strs]; rw [if_neg h2, if_neg h3]
def RqsOk (l : List Rq) : Prop := ∀ r ∈ l, I64 r.client ∧ I64 r.number ∧ r.op.length ≤ 4096
theorem i64I {n : Int} (h : I64 n) : (Lib.itoa n).length ≤ 21 := Lib.itoa_length_le n h.1 h.2
theorem tot_app (a b : List (List UInt8)) : tot (a ++ b) = tot a + tot b := by simp [tot]
theorem rqs_tot (l : List Rq) (h : RqsOk l) : tot (l.flatMap rqS) ≤ 5000 * l.length ∧ (l.flatMap rqS).length = 3 * l.length := by
 induction l with
 | nil => simp [tot]
 | cons r t ih =>
  obtain ⟨i1, i2⟩ := ih (fun y hy => h y (by simp [hy]))
  obtain ⟨h1, h2, h3⟩ := h r (by simp)
  have a := i64I h1
  have b := i64I h2
  refine ⟨?_, ?_⟩
  · rw [List.flatMap_cons, tot_app, List.length_cons]
    simp only [rqS, tot_cons]
    have : tot [] = 0 := rfl
    omega
  · rw [List.flatMap_cons, List.length_append, i2, List.length_cons]
    simp [rqS]; omega
set_option maxRecDepth 100000 in
set_option maxHeartbeats 4000000 in
theorem value_batch (kind cfg : Int) (rs : List Rq) (A : Option Addr) (c : Nat) (w : World) (he : EnvP w) (h : RqIn w A c rs) (hn : rs.length ≤ 1000) (hok : RqsOk rs) (h2 : kind ≠ 2) (h3 : kind ≠ 3) :
    Calls Tryz.prog 69 #[.agg #[.int .i64 kind, .int .i64 cfg, .slice A rs.length c]] w (RetStr (valE ⟨kind, cfg, rs⟩) w) := by
 have HY : Hid (valE ⟨kind, cfg, rs⟩ = putList (wBatch :: rs.flatMap rqS)) := hD (by unfold valE; rw [strs_other kind cfg rs h2 h3])
 have q2 : (kind == 2) = false := by simpa using h2
 have q3 : (kind == 3) = false := by simpa using h3
 have B0 := hD (below_new w (.cells #[.int .i64 kind, .int .i64 cfg, .slice A rs.length c] 95))
 have HV := hD h
 have HE := hD (he.below B0.out)
 have HOk := hD hok
 obtain ⟨i0, hi, hz0, hz1, hz2⟩ := info_parts infoS
 have HI := hD hi
 have HZ0 := hD hz0
 have HZ1 := hD hz1
 have HZ2 := hD hz2
 have he0 := he
 clear hi hz0 hz1 hz2 h he h2 h3 hok
 go_enter Tryz.func69, Tryz.ntmps69
 go_wp2_with fail
 go_loopw [3, 23] (fun o i wr => ∃ (k g cp : Nat), i = .int .i64 k ∧ k ≤ rs.length ∧ o = .slice (some ⟨g, 0, none⟩) (1 + 3 * k) cp ∧ wr.ownsRow w.heap.size 9 1 o (1 + 3 * k) (strC (wBatch :: (rs.take k).flatMap rqS)) ∧ Below w.heap.size w wr ∧ w.heap.size + 1 ≤ wr.heap.size) (fun _ i _ => rs.length - (intOf i).toNat)
 case atStart =>
  refine ⟨0, w.heap.size + 1, 1, rfl, by omega, rfl, ?_, ?_, by simp⟩
  · have h9 := World.ownsRow_lit (base := w.heap.size) (e := 9) (size := 1) (w.alloc (.cells #[.int .i64 kind, .int .i64 cfg, .slice A rs.length c] 95)) #[.string ⟨#[98, 97, 116, 99, 104]⟩] 1 (by simp) (by simp [maxLen]) rfl
    simpa [strC, wBatch] using h9
  · exact B0.out.alloc (by simp) _
 case round =>
  obtain ⟨k, og, cp, rfl, hk, rfl, hown, hb, hge⟩ := hrel
  have HO := hD hown
  have HB := hD hb
  clear hown hb
  by_cases hlt : k < rs.length
  · have i0' : (0 : Int) ≤ (k : Int) := by omega
    have i1 : (k : Int) < (rs.length : Int) := by omega
    obtain ⟨g, o, rfl, hg, hcc⟩ := HV.out.rd.at rqC_len (by omega) hlt
    have a0 := hcc wr HB.out 0 _ rfl
    have a1 := hcc wr HB.out 1 _ rfl
    have a2 := hcc wr HB.out 2 _ rfl
    clear hcc
    simp only [Nat.add_zero] at a0
    obtain ⟨o1, o2, o3⟩ := HOk.out rs[k] (List.getElem_mem hlt)
    have hlo := (HO.out.lt og rfl)
    have HX : Hid (∀ w1, Bx wr (rqC rs[k]) 133 w1 → EnvP w1) := hD (fun w1 hb => he0.below (bon HB.out (bx_low hb)))
    have HI0 : Hid (∀ w1, Bx wr (rqC rs[k]) 133 w1 → Calls Tryz.prog 101 #[.int .i64 rs[k].client] w1 (Gives wr (rqC rs[k]) 133 (Lib.itoa rs[k].client))) :=
     hD (fun w1 hb => gives_of hb (itoa_any _ o1.1 o1.2 w1 (HX.out w1 hb)))
    have HI1 : Hid (∀ w1, Bx wr (rqC rs[k]) 133 w1 → Calls Tryz.prog 101 #[.int .i64 rs[k].number] w1 (Gives wr (rqC rs[k]) 133 (Lib.itoa rs[k].number))) :=
     hD (fun w1 hb => gives_of hb (itoa_any _ o2.1 o2.2 w1 (HX.out w1 hb)))
    have HC : Hid (∀ w1, Bx wr (rqC rs[k]) 133 w1 → w1.cell? ⟨wr.heap.size, 0, none⟩ = some (.int .i64 rs[k].client) ∧ w1.cell? ⟨wr.heap.size, 1, none⟩ = some (.int .i64 rs[k].number) ∧ w1.cell? ⟨wr.heap.size, 2, none⟩ = some (.string ⟨rs[k].op.toArray⟩)) :=
     hD (fun w1 hb => ⟨bx_cell hb 0 _ rfl, bx_cell hb 1 _ rfl, bx_cell hb 2 _ rfl⟩)
    have HCg : Hid (∀ W w1, Bx wr (rqC rs[k]) 133 W → W.grownBy w1 (some og) → w1.cell? ⟨wr.heap.size, 0, none⟩ = some (.int .i64 rs[k].client) ∧ w1.cell? ⟨wr.heap.size, 1, none⟩ = some (.int .i64 rs[k].number) ∧ w1.cell? ⟨wr.heap.size, 2, none⟩ = some (.string ⟨rs[k].op.toArray⟩)) :=
     hD (fun W w1 hb hg => by
      have hne : some wr.heap.size ≠ some og := by simp; omega
      have hlt := bx_size hb
      rw [hg.cell_far _ (by show wr.heap.size < W.heap.size; omega) hne, hg.cell_far _ (by show wr.heap.size < W.heap.size; omega) hne, hg.cell_far _ (by show wr.heap.size < W.heap.size; omega) hne]
      exact HC.out W hb)
    have H0 : Bx wr (rqC rs[k]) 133 (wr.alloc (.cells #[.int .i64 rs[k].client, .int .i64 rs[k].number, .string ⟨rs[k].op.toArray⟩] 133)) := bx_new wr (rqC rs[k]) 133
    have HOW : Hid (∀ w1, Bx wr (rqC rs[k]) 133 w1 → w1.ownsRow w.heap.size 9 1 (.slice (some ⟨og, 0, none⟩) (1 + 3 * k) cp) (1 + 3 * k) (strC (wBatch :: (rs.take k).flatMap rqS))) := hD (fun w1 hb => ownsRow_below HO.out (bx_low hb))
    clear o1 o2 o3
    go_wp2_with fail
    go_region_held3 (fun w1 => w1.cell? ⟨wr.heap.size, 0, none⟩ = some (.int .i64 rs[k].client) ∧ w1.cell? ⟨wr.heap.size, 1, none⟩ = some (.int .i64 rs[k].number) ∧ w1.cell? ⟨wr.heap.size, 2, none⟩ = some (.string ⟨rs[k].op.toArray⟩))
     (first | exact HC.out _ (bx_drew ‹Bx _ _ _ _›) | exact HC.out _ ‹Bx _ _ _ _› | exact HC.out _ (bx_drew (bx_alloc ‹Bx _ _ _ _› _)) | exact HC.out _ (bx_alloc ‹Bx _ _ _ _› _) | exact HCg.out _ _ (bx_drew (bx_alloc ‹Bx _ _ _ _› _)) ‹_› | exact HCg.out _ _ (bx_alloc ‹Bx _ _ _ _› _) ‹_›)
     (first
      | (go_at_call 101; refine (HI0.out _ (by first | assumption | exact bx_drew ‹Bx _ _ _ _›)).mono ?_; rintro e w2 ⟨rfl, b2⟩)
      | (go_at_call 101; refine (HI1.out _ (by first | assumption | exact bx_drew ‹Bx _ _ _ _›)).mono ?_; rintro e w2 ⟨rfl, b2⟩)
      | (refine step_append_lies _ (by rfl) _ _ _ (by rfl) w.heap.size 9 i0 _ 1 16 Tryz.underlying30 HI.out HZ0.out HZ1.out HZ2.out rfl (by decide) _ _ _ (by rfl) (((HOW.out _ ‹Bx _ _ _ _›).alloc _).drew) _ 3 3 [.string ⟨(Lib.itoa rs[k].client).toArray⟩, .string ⟨(Lib.itoa rs[k].number).toArray⟩, .string ⟨rs[k].op.toArray⟩] (by rfl) (by rfl) (World.news_of_block (cs := #[.string ⟨(Lib.itoa rs[k].client).toArray⟩, .string ⟨(Lib.itoa rs[k].number).toArray⟩, .string ⟨rs[k].op.toArray⟩]) (t := 9) (fr := (0, 0)) (heap_alloc_new _ _)) (by simp [Value.oneCell']) (by omega) (by simp [maxLen]; omega) (by omega) (by have hz := bx_size b2; simp; omega) _ rfl ?_; intro gg cap w3 hown1 hgrow hat hlt3))
    all_goals
     have HO3 := hD hown1
     have HG3 := hD hgrow
     have HB2 := hD (bx_low b2)
     have HS2 := bx_size b2
     clear hown1 hgrow hat b2
     go_wp2_with fail
     go_roundw
     case rel =>
      refine ⟨k + 1, gg, cap, by go_num, by omega, by rw [show 1 + 3 * (k + 1) = 1 + 3 * k + 3 from by omega], ?_, below_grown ((bon HB.out HB2.out).alloc (by omega) _) (by simp; omega) HG3.out (fun g hg => by simp [Value.ownBlock] at hg; omega), ?_⟩
      · have he9 : strC (wBatch :: (rs.take (k + 1)).flatMap rqS) = strC (wBatch :: (rs.take k).flatMap rqS) ++ [.string ⟨(Lib.itoa rs[k].client).toArray⟩, .string ⟨(Lib.itoa rs[k].number).toArray⟩, .string ⟨rs[k].op.toArray⟩] := by
          rw [List.take_succ_eq_append_getElem hlt, List.flatMap_append]
          simp only [List.flatMap_cons, List.flatMap_nil, List.append_nil, rqS, strC, List.map_cons, List.map_append, List.map_nil, List.cons_append]
        rw [show 1 + 3 * (k + 1) = 1 + 3 * k + 3 from by omega, he9]
        exact HO3.out
      · have := HG3.out.size; simp at this; omega
     case measure => simp [intOf]; omega
  · have hke : k = rs.length := by omega
    have hl2 := (rqs_tot rs HOk.out)
    have HL : Hid (wBatch :: (rs.take k).flatMap rqS = wBatch :: rs.flatMap rqS) := hD (by rw [List.take_of_length_le (by omega)])
    have HP : Hid (Calls Tryz.prog 100 #[.slice (some ⟨og, 0, none⟩) (1 + 3 * k) cp] wr (RetStr (valE ⟨kind, cfg, rs⟩) wr)) := hD (by
     have hlen : (wBatch :: rs.flatMap rqS).length = 1 + 3 * k := by rw [List.length_cons, hl2.2]; omega
     have h9 := putList_any (some ⟨og, 0, none⟩) cp (wBatch :: rs.flatMap rqS) wr (by rw [hlen, ← HL.out]; exact Rd.own HO.out) (by omega) (by rw [tot_cons]; simp only [wBatch, List.length_cons, List.length_nil]; omega)
     rw [hlen] at h9
     rw [HY.out]; exact h9)
    clear hl2 hke
    go_wp2_with fail
    refine HP.out.mono ?_
    rintro e w1 ⟨rfl, b1⟩
    go_wp2_with fail
    go_ret
    exact ret_st rfl (bon HB.out b1)
open Go.Proofs.YtikpcebhcnjkhaaGreatDoor
open Go.RowKit
set_option maxRecDepth 100000 in
set_option maxHeartbeats 1000000 in
theorem value_join (cfg : Int) (rs : List Rq) (A : Option Addr) (c : Nat) (w : World) (he : EnvP w) (hi : I64 cfg) :
    Calls Tryz.prog 69 #[.agg #[.int .i64 2, .int .i64 cfg, .slice A rs.length c]] w (RetStr (valE ⟨2, cfg, rs⟩) w) := by
 have B0 := hD (below_new w (.cells #[.int .i64 2, .int .i64 cfg, .slice A rs.length c] 95))
 have HI := hD (itoa_any cfg hi.1 hi.2 _ (he.below B0.out))
 have hl := i64I hi
 have HP : Hid (∀ (w1 : World), Calls Tryz.prog 100 #[.slice (some ⟨w1.heap.size, 0, none⟩) 2 2] (w1.alloc (.cells #[.string ⟨#[106, 111, 105, 110]⟩, .string ⟨(Lib.itoa cfg).toArray⟩] 9)) (RetStr (valE ⟨2, cfg, rs⟩) (w1.alloc (.cells #[.string ⟨#[106, 111, 105, 110]⟩, .string ⟨(Lib.itoa cfg).toArray⟩] 9)))) := hD (fun w1 => by
  have h := putList_any (some ⟨w1.heap.size, 0, none⟩) 2 [wJoin, Lib.itoa cfg] _ (rd_new w1 1 2 (strC [wJoin, Lib.itoa cfg]) 9 rfl) (by simp) (by simp only [tot_cons, wJoin, List.length_cons, List.length_nil]; simp only [tot, List.map_nil, List.sum_nil]; omega)
  unfold valE
  rw [strs_join]
  exact h)
 clear he hl hi
 go_enter Tryz.func69, Tryz.ntmps69
 go_wp2_with fail
 refine HI.out.mono ?_
 rintro e w1 ⟨rfl, b1⟩
 have B1 := hD (bon B0.out b1)
 clear b1
 go_wp2_with fail
 refine (HP.out _).mono ?_
 rintro e w2 ⟨rfl, b2⟩
 go_wp2_with fail
 go_ret
 exact ret_st rfl (bon (B1.out.alloc B1.out.size _) b2)
set_option maxRecDepth 100000 in
set_option maxHeartbeats 1000000 in
theorem value_finish (cfg : Int) (rs : List Rq) (A : Option Addr) (c : Nat) (w : World) :
    Calls Tryz.prog 69 #[.agg #[.int .i64 3, .int .i64 cfg, .slice A rs.length c]] w (RetStr (valE ⟨3, cfg, rs⟩) w) := by
 have B0 := hD (below_new w (.cells #[.int .i64 3, .int .i64 cfg, .slice A rs.length c] 95))
 have HP : Hid (∀ (w1 : World) (g : Nat), w1.heap.size = g → Calls Tryz.prog 100 #[.slice (some ⟨g, 0, none⟩) 1 1] (w1.alloc (.cells #[.string ⟨#[102, 105, 110, 105, 115, 104]⟩] 9)) (RetStr (valE ⟨3, cfg, rs⟩) (w1.alloc (.cells #[.string ⟨#[102, 105, 110, 105, 115, 104]⟩] 9)))) := hD (fun w1 g hg => by
  subst hg
  have h := putList_any (some ⟨w1.heap.size, 0, none⟩) 1 [wFinish] _ (rd_new w1 1 1 (strC [wFinish]) 9 rfl) (by simp) (by simp [tot, wFinish])
  unfold valE
  rw [strs_finish]
  exact h)
 go_enter Tryz.func69, Tryz.ntmps69
 go_wp2_with fail
 refine (HP.out _ _ (by simp)).mono ?_
 rintro e w2 ⟨rfl, b2⟩
 go_wp2_with fail
 go_ret
 exact ret_st rfl (bon (B0.out.alloc (by simp) _) b2)
theorem value_any (kind cfg : Int) (rs : List Rq) (A : Option Addr) (c : Nat) (w : World) (he : EnvP w) (h : RqIn w A c rs) (hn : rs.length ≤ 1000) (hok : RqsOk rs) (hi : I64 cfg) :
    Calls Tryz.prog 69 #[.agg #[.int .i64 kind, .int .i64 cfg, .slice A rs.length c]] w (RetStr (valE ⟨kind, cfg, rs⟩) w) := by
 by_cases h2 : kind = 2
 · subst h2; exact value_join cfg rs A c w he hi
 · by_cases h3 : kind = 3
   · subst h3; exact value_finish cfg rs A c w
   · exact value_batch kind cfg rs A c w he h hn hok h2 h3
def encE (e : En) : List UInt8 := if vEn e = 0 then valE e else []
def RetStrErr (l : List UInt8) (n : Int) (w : World) (e : Ending) (w' : World) : Prop := e = .returned (.tuple #[.string ⟨l.toArray⟩, .int .i64 n]) ∧ Below w.heap.size w w'
theorem ret_se {l l' : List UInt8} {n m : Int} {w w' : World} (h : l = l') (hn : n = m) (hb : Below w.heap.size w w') : RetStrErr l n w (.returned (.tuple #[.string ⟨l'.toArray⟩, .int .i64 m])) w' := ⟨by rw [h, hn], hb⟩
set_option maxRecDepth 100000 in
set_option maxHeartbeats 1000000 in
theorem enEncode_any (kind cfg : Int) (rs : List Rq) (A : Option Addr) (c : Nat) (w : World) (he : EnvP w) (h : RqIn w A c rs) (hn : rs.length ≤ 1000) (hok : RqsOk rs) (hi : I64 cfg) :
    Calls Tryz.prog 110 #[.agg #[.int .i64 kind, .int .i64 cfg, .slice A rs.length c]] w (RetStrErr (encE ⟨kind, cfg, rs⟩) (vEn ⟨kind, cfg, rs⟩) w) := by
 have B0 := hD (bx_new w [.int .i64 kind, .int .i64 cfg, .slice A rs.length c] 95)
 have HV := hD (enValid_any kind cfg rs A c _ (h.below (bx_low B0.out)))
 have HC : Hid (∀ w1, Bx w [.int .i64 kind, .int .i64 cfg, .slice A rs.length c] 95 w1 → w1.cell? ⟨w.heap.size, 0, none⟩ = some (.int .i64 kind) ∧ w1.cell? ⟨w.heap.size, 1, none⟩ = some (.int .i64 cfg) ∧ w1.cell? ⟨w.heap.size, 2, none⟩ = some (.slice A rs.length c)) :=
  hD (fun w1 hb => ⟨bx_cell hb 0 _ rfl, bx_cell hb 1 _ rfl, bx_cell hb 2 _ rfl⟩)
 by_cases h0 : vEn ⟨kind, cfg, rs⟩ = 0
 · have HY : Hid (encE ⟨kind, cfg, rs⟩ = valE ⟨kind, cfg, rs⟩) := hD (by unfold encE; rw [if_pos h0])
   have HX : Hid (∀ w1, Bx w [.int .i64 kind, .int .i64 cfg, .slice A rs.length c] 95 w1 → Calls Tryz.prog 69 #[.agg #[.int .i64 kind, .int .i64 cfg, .slice A rs.length c]] w1 (RetStr (valE ⟨kind, cfg, rs⟩) w1)) :=
    hD (fun w1 hb => value_any kind cfg rs A c w1 (he.below (bx_low hb)) (h.below (bx_low hb)) hn hok hi)
   rw [h0] at HV ⊢
   clear he h hn hok hi h0
   go_enter Tryz.func110, Tryz.ntmps110
   go_wp2_with fail
   refine HV.out.mono ?_
   rintro e w1 ⟨rfl, b1⟩
   have B1 := hD (bx_on B0.out b1)
   obtain ⟨c0, c1, c2⟩ := HC.out _ B1.out
   clear b1
   go_wp2_with fail
   refine (HX.out _ B1.out).mono ?_
   rintro e w2 ⟨rfl, b2⟩
   go_wp2_with fail
   go_ret2
   exact ret_se HY.out rfl (bx_low (bx_on B1.out b2))
 · have HY : Hid (encE ⟨kind, cfg, rs⟩ = []) := hD (by unfold encE; rw [if_neg h0])
   generalize vEn ⟨kind, cfg, rs⟩ = v at HV h0 ⊢
   have q1 : (v == 0) = false := by simpa using h0
   have q2 : (v != 0) = true := by simpa using h0
   clear he h hn hok hi h0
   go_enter Tryz.func110, Tryz.ntmps110
   go_wp2_with fail
   refine HV.out.mono ?_
   rintro e w1 ⟨rfl, b1⟩
   have B1 := hD (bx_on B0.out b1)
   clear b1
   go_wp2_with fail
   go_ret2
   exact ret_se (l' := []) HY.out rfl (bx_low B1.out)
def noop : En := ⟨1, 0, []⟩
set_option maxRecDepth 100000 in
set_option maxHeartbeats 1000000 in
theorem noop_any (w : World) (he : EnvP w) : Calls Tryz.prog 109 #[] w (RetStr (valE noop) w) := by
 have HX := hD (value_any 1 0 [] none 0 w he ⟨Rd.nil _ _ _, by simp, by simp, by simp, by simp⟩ (by simp) (by intro r hr; simp at hr) ⟨by decide, by decide⟩)
 clear he
 go_enter Tryz.func109, Tryz.ntmps109
 go_wp2_with fail
 refine HX.out.mono ?_
 rintro e w2 ⟨rfl, b2⟩
 go_wp2_with fail
 go_ret
 exact ret_st rfl b2
end Go.Proofs.YtikpcebhcnjkhaaGreatDoor.Q40
