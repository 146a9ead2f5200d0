/- The contract of entry.Batches: its refusals. -/
import Derived.Test.YthmoplkleopahaaDoorEntK
namespace Go.Proofs.YthmoplkleopahaaDoor
open Go.RowKit

/-- a batch: its row and its requests -/
structure Bt where
  a : Option Addr
  c : Nat
  l : List Rq
def btC (x : Bt) : List Value := [.int .i64 1, .int .i64 0, .slice x.a x.l.length x.c]
theorem btC_len (x : Bt) : (btC x).length = 3 := rfl
/-- what Batches returns -/
def RetBat (n : Int) (ls : List (List Rq)) (w : World) (e : Ending) (w' : World) : Prop := ∃ (A : Option Addr) (c : Nat) (bs : List Bt), e = .returned (.tuple #[.slice A bs.length c, .int .i64 n]) ∧ bs.map Bt.l = ls ∧ Rd w' 3 A bs.length (bs.flatMap btC) ∧ (∀ x ∈ bs, RqIn w' x.a x.c x.l) ∧ bs.length ≤ c ∧ Below w.heap.size w w'
theorem ret_bt_none {n : Int} {m : Int} {ls : List (List Rq)} {w w' : World} (h : n = m) (hl : ls = []) (hb : Below w.heap.size w w') : RetBat n ls w (.returned (.tuple #[.slice none 0 0, .int .i64 m])) w' := by
  subst h hl
  exact ⟨none, 0, [], rfl, rfl, Rd.nil _ _ _, by simp, by simp, hb⟩
theorem ret_bt {ls : List (List Rq)} {n : Int} {w w' : World} {A : Option Addr} {m c : Nat} {bs : List Bt} (hn : n = 0) (hm : m = bs.length) (h : bs.map Bt.l = ls) (hr : Rd w' 3 A m (bs.flatMap btC)) (hx : ∀ x ∈ bs, RqIn w' x.a x.c x.l) (hc : m ≤ c) (hb : Below w.heap.size w w') : RetBat n ls w (.returned (.tuple #[.slice A m c, .int .i64 0])) w' := by
  subst hn hm
  exact ⟨A, c, bs, rfl, h, hr, hx, hc, hb⟩
theorem batL_bad {l : List Rq} {k b : Int} (h : batE l k b ≠ 0) : batL l k b = [] := by unfold batL; rw [if_pos h]
set_option maxRecDepth 100000 in
set_option maxHeartbeats 1000000 in
theorem batches_range (A : Option Addr) (c : Nat) (l : List Rq) (k b : Int) (w : World) (hbad : k < 1 ∨ 8 < k ∨ b < 1 ∨ 2000 < b) :
    Calls Tryd.prog 22 #[.slice A l.length c, .int .i64 k, .int .i64 b] w (RetBat (batE l k b) (batL l k b) w) := by
  have h7 : batE l k b = 7 := by unfold batE; rw [if_pos hbad]
  have HL : Hid (batL l k b = []) := Lib.hid (batL_bad (by rw [h7]; decide))
  have H7 := Lib.hid h7
  have B0 := Lib.hid ((below_new w (.cells #[.int .i64 k] 3)).alloc (by simp) (.cells #[.int .i64 b] 3))
  clear h7
  rcases hbad with h | h | h | h
  all_goals
    go_enter Tryd.func22, Tryd.ntmps22
    go_wp2_with fail
    all_goals
      go_ret2
      exact ret_bt_none H7.out HL.out B0.out
set_option maxRecDepth 100000 in
set_option maxHeartbeats 1000000 in
theorem batches_invalid (A : Option Addr) (c : Nat) (l : List Rq) (k b : Int) (w : World) (h : RqIn w A c l) (hok : ¬ (k < 1 ∨ 8 < k ∨ b < 1 ∨ 2000 < b)) (hv : vRqs [] l ≠ 0) :
    Calls Tryd.prog 22 #[.slice A l.length c, .int .i64 k, .int .i64 b] w (RetBat (batE l k b) (batL l k b) w) := by
  have h7 : batE l k b = vRqs [] l := by unfold batE; rw [if_neg hok, if_pos hv]
  have HL : Hid (batL l k b = []) := Lib.hid (batL_bad (by rw [h7]; exact hv))
  have H7 := Lib.hid h7
  have B0 := Lib.hid ((below_new w (.cells #[.int .i64 k] 3)).alloc (by simp) (.cells #[.int .i64 b] 3))
  have hI := h.below B0.out
  have HV := Lib.hid (valid_any A c l _ hI.rd hI.cap hI.big hI.few hI.op)
  have r1 : ¬ k < 1 := fun h => hok (.inl h)
  have r2 : ¬ 8 < k := fun h => hok (.inr (.inl h))
  have r3 : ¬ b < 1 := fun h => hok (.inr (.inr (.inl h)))
  have r4 : ¬ 2000 < b := fun h => hok (.inr (.inr (.inr h)))
  generalize vRqs [] l = v at H7 HV hv
  have v1 : (v == 0) = false := by simpa using hv
  have v2 : (v != 0) = true := by simpa using hv
  clear h7 h hI hok hv
  go_enter Tryd.func22, Tryd.ntmps22
  go_wp2_with fail
  refine HV.out.mono ?_
  rintro e w1 ⟨rfl, b1⟩
  have B1 := Lib.hid (bon B0.out b1)
  clear b1
  go_wp2_with fail
  go_ret2
  exact ret_bt_none H7.out HL.out B1.out
end Go.Proofs.YthmoplkleopahaaDoor
