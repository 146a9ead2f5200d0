/- The contracts of Word, and the law on it. -/
import Derived.Test.YtdjpnncehlmehaaDoorS
import Derived.Lib.AppendIntMem
import Derived.Lib.SmallJoins
namespace Go.Proofs.YtdjpnncehlmehaaDoor
open Go.RowKit

/-- the text of a token -/
def word (t : Tok) : List UInt8 := if t.kind = 1 ∨ t.kind = 4 then t.text else if t.kind = 2 then Lib.itoa t.int else if t.kind = 3 then quote t.str else []
def Pow (w : World) : Prop := Lib.TabIs Tryd.prog w "internal/strconv.uint64pow10" .u64 Lib.pow10Tab
theorem pow_below {w w' : World} (h : Pow w) (hb : Below w.heap.size w w') : Pow w' := Go.Joins.tab_stays (g := (Tryd.prog.globalNamed "internal/strconv.uint64pow10").getD 0) (by kernel_rfl) h hb (Nat.le_refl _)
theorem fmt_any (n : Int) (h0 : -9223372036854775808 ≤ n) (h1 : n ≤ 9223372036854775807) (w : World) (hp : Pow w) :
    Calls Tryd.prog 47 #[.int .i64 n, .int .i64 10] w fun e w' => e = .returned (.string ⟨(Lib.itoa n).toArray⟩) ∧ Below w.heap.size w w' :=
  (Tryd.strconv_FormatInt_10 n h0 h1 w hp).mono fun _ _ ⟨he, k, os, hw⟩ => ⟨he, by rw [hw]; exact Lib.below_grow _ w (Nat.le_refl _) k os⟩

def RetWord (t : Tok) (w : World) (e : Ending) (w' : World) : Prop := e = .returned (.string ⟨(word t).toArray⟩) ∧ Below w.heap.size w w'
theorem ret_word {t : Tok} {w w' : World} {l : List UInt8} (h : word t = l) (hb : Below w.heap.size w w') : RetWord t w (.returned (.string ⟨l.toArray⟩)) w' := ⟨by rw [h], hb⟩
theorem word_at (t : Tok) : ((t.kind = 1 ∨ t.kind = 4) ∧ word t = t.text) ∨ (t.kind ≠ 1 ∧ t.kind ≠ 4 ∧ t.kind = 2 ∧ word t = Lib.itoa t.int) ∨ (t.kind ≠ 1 ∧ t.kind ≠ 4 ∧ t.kind ≠ 2 ∧ t.kind = 3 ∧ word t = quote t.str) ∨ (t.kind ≠ 1 ∧ t.kind ≠ 4 ∧ t.kind ≠ 2 ∧ t.kind ≠ 3 ∧ word t = []) := by
  unfold word
  by_cases a : t.kind = 1
  · exact .inl ⟨.inl a, by rw [if_pos (.inl a)]⟩
  by_cases b : t.kind = 4
  · exact .inl ⟨.inr b, by rw [if_pos (.inr b)]⟩
  right
  rw [if_neg (by omega)]
  by_cases c : t.kind = 2
  · exact .inl ⟨a, b, c, by rw [if_pos c]⟩
  right
  rw [if_neg c]
  by_cases d : t.kind = 3
  · exact .inl ⟨a, b, c, d, by rw [if_pos d]⟩
  · exact .inr ⟨a, b, c, d, by rw [if_neg d]⟩
set_option maxRecDepth 100000 in
set_option maxHeartbeats 2000000 in
theorem lexWord_any (t : Tok) (w : World) (hs : t.str.length ≤ 1000000) (h0 : -9223372036854775808 ≤ t.int) (h1 : t.int ≤ 9223372036854775807) (hp : Pow w) :
    Calls Tryd.prog 25 #[.agg (tokA t)] w (RetWord t w) := by
  have B1 : Hid (Below w.heap.size w (w.alloc (.cells (tokA t) 33))) := Lib.hid ((Below.refl _ _).alloc (Nat.le_refl _) _)
  have HF := Lib.hid (fmt_any t.int h0 h1 (w.alloc (.cells (tokA t) 33)) (pow_below hp B1.out))
  have HQ := Lib.hid (lexQuote_any ⟨t.str.toArray⟩ (w.alloc (.cells (tokA t) 33)) hs)
  clear h0 h1 hp
  have hcase := word_at t
  unfold tokA at B1 HF HQ ⊢
  obtain ⟨kind, text, int, str, line⟩ := t
  simp only at hcase B1 HF HQ ⊢
  rcases hcase with ⟨rfl | rfl, hw⟩ | ⟨-, -, rfl, hw⟩ | ⟨-, -, -, rfl, hw⟩ | ⟨k1, k4, k2, k3, hw⟩
  · have HW := Lib.hid hw
    clear hw
    go_enter Tryd.func25, Tryd.ntmps25
    go_wp2_with fail
    go_ret
    exact ret_word HW.out B1.out
  · have HW := Lib.hid hw
    clear hw
    go_enter Tryd.func25, Tryd.ntmps25
    go_wp2_with fail
    go_ret
    exact ret_word HW.out B1.out
  · have HW := Lib.hid hw
    clear hw
    go_enter Tryd.func25, Tryd.ntmps25
    go_wp2_with fail
    refine HF.out.mono ?_
    rintro e w1 ⟨rfl, b1⟩
    go_wp2_with fail
    go_ret
    exact ret_word HW.out (B1.out.trans (b1.mono B1.out.size))
  · have HW := Lib.hid hw
    clear hw
    go_enter Tryd.func25, Tryd.ntmps25
    go_wp2_with fail
    refine HQ.out.mono ?_
    rintro e w1 ⟨rfl, b1⟩
    go_wp2_with fail
    go_ret
    exact ret_word HW.out (B1.out.trans (b1.mono B1.out.size))
  · have HW := Lib.hid hw
    have x1 : (kind == 1) = false := by rw [beq_eq_false_iff_ne]; exact k1
    have x2 : (kind == 2) = false := by rw [beq_eq_false_iff_ne]; exact k2
    have x3 : (kind == 3) = false := by rw [beq_eq_false_iff_ne]; exact k3
    have x4 : (kind == 4) = false := by rw [beq_eq_false_iff_ne]; exact k4
    clear hw k1 k2 k3 k4
    go_enter Tryd.func25, Tryd.ntmps25
    go_wp2_with fail
    go_ret
    exact ret_word HW.out B1.out
set_option maxRecDepth 100000 in
set_option maxHeartbeats 2000000 in
theorem refWord_any (t : Tok) (w : World) (hs : t.str.length ≤ 1000000) (h0 : -9223372036854775808 ≤ t.int) (h1 : t.int ≤ 9223372036854775807) (hp : Pow w) :
    Calls Tryd.prog 26 #[.agg (tokA t)] w (RetWord t w) := by
  have B1 : Hid (Below w.heap.size w (w.alloc (.cells (tokA t) 33))) := Lib.hid ((Below.refl _ _).alloc (Nat.le_refl _) _)
  have HF := Lib.hid (fmt_any t.int h0 h1 (w.alloc (.cells (tokA t) 33)) (pow_below hp B1.out))
  have HQ := Lib.hid (refQuote_any ⟨t.str.toArray⟩ (w.alloc (.cells (tokA t) 33)) hs)
  clear h0 h1 hp
  have hcase := word_at t
  unfold tokA at B1 HF HQ ⊢
  obtain ⟨kind, text, int, str, line⟩ := t
  simp only at hcase B1 HF HQ ⊢
  rcases hcase with ⟨rfl | rfl, hw⟩ | ⟨-, -, rfl, hw⟩ | ⟨-, -, -, rfl, hw⟩ | ⟨k1, k4, k2, k3, hw⟩
  · have HW := Lib.hid hw
    clear hw
    go_enter Tryd.func26, Tryd.ntmps26
    go_wp2_with fail
    go_ret
    exact ret_word HW.out B1.out
  · have HW := Lib.hid hw
    clear hw
    go_enter Tryd.func26, Tryd.ntmps26
    go_wp2_with fail
    go_ret
    exact ret_word HW.out B1.out
  · have HW := Lib.hid hw
    clear hw
    go_enter Tryd.func26, Tryd.ntmps26
    go_wp2_with fail
    refine HF.out.mono ?_
    rintro e w1 ⟨rfl, b1⟩
    go_wp2_with fail
    go_ret
    exact ret_word HW.out (B1.out.trans (b1.mono B1.out.size))
  · have HW := Lib.hid hw
    clear hw
    go_enter Tryd.func26, Tryd.ntmps26
    go_wp2_with fail
    refine HQ.out.mono ?_
    rintro e w1 ⟨rfl, b1⟩
    go_wp2_with fail
    go_ret
    exact ret_word HW.out (B1.out.trans (b1.mono B1.out.size))
  · have HW := Lib.hid hw
    have x1 : (kind == 1) = false := by rw [beq_eq_false_iff_ne]; exact k1
    have x2 : (kind == 2) = false := by rw [beq_eq_false_iff_ne]; exact k2
    have x3 : (kind == 3) = false := by rw [beq_eq_false_iff_ne]; exact k3
    have x4 : (kind == 4) = false := by rw [beq_eq_false_iff_ne]; exact k4
    clear hw k1 k2 k3 k4
    go_enter Tryd.func26, Tryd.ntmps26
    go_wp2_with fail
    go_ret
    exact ret_word HW.out B1.out
end Go.Proofs.YtdjpnncehlmehaaDoor
