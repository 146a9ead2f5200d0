/- The contracts of wire's readers: Get, GetString, GetList. -/
import Derived.Test.YthmoplkleopahaaDoorWireL
import Derived.Test.YthmoplkleopahaaDoorWireGP
import Derived.Laws.Bits64b
import Derived.Lib.BitFns
namespace Go.Proofs.YthmoplkleopahaaDoor
open Go.RowKit

theorem and127' : ∀ n : Fin 256, bits BinOp.and IntKind.u8 (n.val : Int) 127 = (n.val : Int) % 128 := by decide +kernel
theorem and127 (n : Nat) (h : n < 256) : bits BinOp.and IntKind.u8 (n : Int) 127 = ((n % 128 : Nat) : Int) := by
  rw [and127' ⟨n, h⟩]; rfl
theorem len_test' : ∀ (c : Fin 128) (k : Fin 10), decide (64 < Lib.bitLen c.val + 7 * k.val) = decide (18446744073709551616 ≤ c.val * 128 ^ k.val) := by decide +kernel
theorem len_test (c k : Nat) (hc : c < 128) (hk : k ≤ 9) : 64 < Lib.bitLen c + 7 * k ↔ 18446744073709551616 ≤ c * 128 ^ k := by
  have := len_test' ⟨c, hc⟩ ⟨k, by omega⟩
  simpa using this
theorem bitLen_le' : ∀ c : Fin 128, Lib.bitLen c.val ≤ 7 := by decide +kernel
theorem or_shift (a c k : Nat) (ha : a < 128 ^ k) (hb : a + c * 128 ^ k < 18446744073709551616) :
    bits BinOp.or IntKind.u64 (a : Int) (IntKind.u64.wrap (IntKind.u64.wrap (c : Int) * 2 ^ (7 * k))) = ((a + c * 128 ^ k : Nat) : Int) := by
  have e : (128 : Nat) ^ k = 2 ^ (7 * k) := by rw [Nat.pow_mul]
  have hp : 1 ≤ 128 ^ k := Nat.pow_pos (by omega)
  have hc : c ≤ c * 128 ^ k := Nat.le_mul_of_pos_right c hp
  have h1 : IntKind.u64.wrap (c : Int) = (c : Int) := by rw [IntKind.wrap_u64]; omega
  have h2 : (c : Int) * 2 ^ (7 * k) = ((c * 128 ^ k : Nat) : Int) := by rw [e]; simp
  have h3 : IntKind.u64.wrap ((c * 128 ^ k : Nat) : Int) = ((c * 128 ^ k : Nat) : Int) := by rw [IntKind.wrap_u64]; omega
  rw [h1, h2, h3, bits_or_u64_nat _ _ (by omega) (by omega)]
  congr 1
  rw [Nat.or_comm, e, ← Nat.shiftLeft_eq, ← Nat.shiftLeft_add_eq_or_of_lt (by rw [← e]; exact ha), Nat.add_comm]
theorem or_shift' (a c k : Nat) (ha : a < 128 ^ k) (hb : a + c * 128 ^ k < 18446744073709551616) :
    bits BinOp.or IntKind.u64 (a : Int) (IntKind.u64.wrap ((c : Int) * 2 ^ (7 * k))) = ((a + c * 128 ^ k : Nat) : Int) := by
  have hp : 1 ≤ 128 ^ k := Nat.pow_pos (by omega)
  have hc : c ≤ c * 128 ^ k := Nat.le_mul_of_pos_right c hp
  have h1 : IntKind.u64.wrap (c : Int) = (c : Int) := by rw [IntKind.wrap_u64]; omega
  have := or_shift a c k ha hb
  rwa [h1] at this
theorem getVAt_at (s : ByteArray) (k a : Nat) (h : k < s.size) (hk : k ≤ 9) : getVAt (10 - k) k a (s.data.toList.drop k) =
    if 128 ≤ s[k].toNat then getVAt (10 - (k + 1)) (k + 1) (a + (s[k].toNat - 128) * 128 ^ k) (s.data.toList.drop (k + 1))
    else if 18446744073709551616 ≤ s[k].toNat * 128 ^ k then none else if s[k].toNat = 0 ∧ 0 < k then none else some (a + s[k].toNat * 128 ^ k, k + 1) := by
  rw [drop_at s k h, show 10 - k = (10 - (k + 1)) + 1 from by omega, getVAt]
theorem getVAt_end (s : ByteArray) (k a : Nat) (h : k = s.size ∨ k = 10) : getVAt (10 - k) k a (s.data.toList.drop k) = none := by
  rcases h with rfl | rfl
  · rw [List.drop_eq_nil_of_le (by simp)]
    cases 10 - s.size <;> rfl
  · rfl
def RetV (l : List UInt8) (w : World) (e : Ending) (w' : World) : Prop := w = w' ∧ match getV l with
  | some (n, k) => e = .returned (.tuple #[.int .u64 n, .int .i64 k, .int .i64 0])
  | none => ∃ c : Int, c ≠ 0 ∧ e = .returned (.tuple #[.int .u64 0, .int .i64 0, .int .i64 c])
theorem ret_v_none {l : List UInt8} {w : World} (h : getV l = none) (c : Int) (hc : c ≠ 0) : RetV l w (.returned (.tuple #[.int .u64 0, .int .i64 0, .int .i64 c])) w := by
  refine ⟨rfl, ?_⟩
  rw [h]
  exact ⟨c, hc, rfl⟩
theorem ret_v_some {l : List UInt8} {w : World} {n k : Nat} {x y : Int} (h : getV l = some (n, k)) (hx : x = (n : Int)) (hy : Value.int .i64 y = .int .i64 (k : Int)) : RetV l w (.returned (.tuple #[.int .u64 x, .int .i64 y, .int .i64 0])) w := by
  refine ⟨rfl, ?_⟩
  rw [h, hx, hy]
set_option maxRecDepth 100000 in
set_option maxHeartbeats 2000000 in
theorem get_any (s : ByteArray) (w : World) (hs : s.size ≤ 70368744177664) :
    Calls Tryd.prog 63 #[.string s] w (RetV s.data.toList w) := by
  obtain ⟨m, hm⟩ : ∃ m : Nat, m = min s.size 10 := ⟨_, rfl⟩
  have hmm : min (s.size : Int) 10 = (m : Int) := by omega
  have m1 : m ≤ 10 := by omega
  have m2 : m ≤ s.size := by omega
  have HM : Hid (m < 10 → m = s.size) := Lib.hid (by omega)
  clear hm
  go_enter Tryd.func63, Tryd.ntmps63
  go_wp2_with fail
  clear hmm
  go_loop [5, 11] (fun n i => ∃ (k a : Nat) (v : Int), i = .int .i64 k ∧ k ≤ m ∧ n = .int .u64 v ∧ (k ≤ 9 → v = a) ∧ a < 128 ^ k ∧ getV s.data.toList = getVAt (10 - k) k a (s.data.toList.drop k)) (fun _ i => m - (intOf i).toNat)
  case atStart => exact ⟨0, 0, 0, rfl, by omega, rfl, fun _ => rfl, by omega, rfl⟩
  case round =>
    obtain ⟨k, a, v, rfl, hk, rfl, hv, ha, hg⟩ := hrel
    have HG := Lib.hid hg
    clear hg
    by_cases hlt : k < m
    · have hks : k < s.size := by omega
      obtain rfl : v = a := hv (by omega)
      clear hv
      have hc := byte_lt s[k]
      by_cases hb : 128 ≤ s[k].toNat
      · go_wp2_with fail
        go_round
        case rel =>
          have hpow : 128 ^ (k + 1) = 128 ^ k * 128 := Nat.pow_succ 128 k
          have hmul : (s[k].toNat - 128) * 128 ^ k ≤ 127 * 128 ^ k := Nat.mul_le_mul_right _ (by omega)
          refine ⟨k + 1, a + (s[k].toNat - 128) * 128 ^ k, _, by go_num, by omega, rfl, fun h9 => ?_, by omega, ?_⟩
          · have h8 : 128 ^ (k + 1) ≤ 128 ^ 9 := Nat.pow_le_pow_right (by omega) h9
            rw [and127 _ hc, show s[k].toNat % 128 = s[k].toNat - 128 from by omega]
            exact or_shift a _ k ha (by omega)
          · rw [HG.out, getVAt_at s k a hks (by omega), if_pos hb]
        case measure => simp [intOf]; omega
      · have hbl := bitLen_le' ⟨s[k].toNat, by omega⟩
        simp only [] at hbl
        have HT := Lib.hid (len_test s[k].toNat k (by omega) (by omega))
        by_cases hq : 64 < Lib.bitLen s[k].toNat + 7 * k
        · have hr : getV s.data.toList = none := by rw [HG.out, getVAt_at s k a hks (by omega), if_neg hb, if_pos (HT.out.1 hq)]
          have HR := Lib.hid hr
          clear hr
          have hq' : (64 : Int) < (Lib.bitLen s[k].toNat : Int) + 7 * (k : Int) := by omega
          go_wp2_with (go_at_call 74; refine (Tryd.bits_Len8 _ _ (by omega) (by omega)).mono ?_; rintro e w' ⟨rfl, rfl⟩)
          go_ret3
          exact ret_v_none HR.out _ (by decide)
        · have hq' : ¬ (64 : Int) < (Lib.bitLen s[k].toNat : Int) + 7 * (k : Int) := by omega
          have hlt2 := fun h => hq (HT.out.2 h)
          by_cases hz : s[k].toNat = 0 ∧ 0 < k
          · have hr : getV s.data.toList = none := by rw [HG.out, getVAt_at s k a hks (by omega), if_neg hb, if_neg hlt2, if_pos hz]
            have HR := Lib.hid hr
            have hz1 : ((s[k].toNat : Int) == 0) = true := by simp; exact hz.1
            have hz2 : (0 : Int) < (k : Int) := by omega
            clear hr hlt2 hz
            go_wp2_with (go_at_call 74; refine (Tryd.bits_Len8 _ _ (by omega) (by omega)).mono ?_; rintro e w' ⟨rfl, rfl⟩)
            go_ret3
            exact ret_v_none HR.out _ (by decide)
          · have hr : getV s.data.toList = some (a + s[k].toNat * 128 ^ k, k + 1) := by rw [HG.out, getVAt_at s k a hks (by omega), if_neg hb, if_neg hlt2, if_neg hz]
            have HR := Lib.hid hr
            have HO := Lib.hid (or_shift' a s[k].toNat k ha (step_fit a _ k (by omega) (by omega) ha hlt2))
            clear hr hlt2
            have hz1 : ((s[k].toNat : Int) == 0) = false ∨ (((s[k].toNat : Int) == 0) = true ∧ ¬ (0 : Int) < (k : Int)) := by
              by_cases h0 : s[k].toNat = 0
              · right; constructor
                · simp; exact h0
                · omega
              · left; simp; exact h0
            clear hz
            rcases hz1 with hz1 | ⟨hz1, hz2⟩
            all_goals
              go_wp2_with (go_at_call 74; refine (Tryd.bits_Len8 _ _ (by omega) (by omega)).mono ?_; rintro e w' ⟨rfl, rfl⟩)
              go_ret3
              exact ret_v_some HR.out (HO.out) (by go_num)
    · have hr : getV s.data.toList = none := by
        rw [HG.out]; exact getVAt_end s k a (by
          have := HM.out
          omega)
      have HR := Lib.hid hr
      clear hr
      go_wp2_with fail
      all_goals
        go_ret3
        exact ret_v_none HR.out _ (by decide)

def RetS (l : List UInt8) (w : World) (e : Ending) (w' : World) : Prop := w = w' ∧ match getStr l with
  | some (x, k) => e = .returned (.tuple #[.string ⟨x.toArray⟩, .int .i64 k, .int .i64 0])
  | none => ∃ c : Int, c ≠ 0 ∧ e = .returned (.tuple #[.string ⟨#[]⟩, .int .i64 0, .int .i64 c])
theorem ret_s_none {l : List UInt8} {w : World} (h : getStr l = none) (c : Int) (hc : c ≠ 0) : RetS l w (.returned (.tuple #[.string ⟨#[]⟩, .int .i64 0, .int .i64 c])) w := by
  refine ⟨rfl, ?_⟩
  rw [h]
  exact ⟨c, hc, rfl⟩
theorem ret_s_some {l x : List UInt8} {w : World} {k : Nat} {y : Int} {z : ByteArray} (h : getStr l = some (x, k)) (hx : z = ⟨x.toArray⟩) (hy : Value.int .i64 y = .int .i64 (k : Int)) : RetS l w (.returned (.tuple #[.string z, .int .i64 y, .int .i64 0])) w := by
  refine ⟨rfl, ?_⟩
  rw [h, hx, hy]
theorem get_none (s : ByteArray) (w : World) (hs : s.size ≤ 70368744177664) (h : getV s.data.toList = none) :
    Calls Tryd.prog 63 #[.string s] w fun e w' => w = w' ∧ ∃ c : Int, c ≠ 0 ∧ e = .returned (.tuple #[.int .u64 0, .int .i64 0, .int .i64 c]) :=
  (get_any s w hs).mono fun _ _ ⟨hw, he⟩ => by rw [h] at he; exact ⟨hw, he⟩
theorem get_some (s : ByteArray) (w : World) (hs : s.size ≤ 70368744177664) (n k : Nat) (h : getV s.data.toList = some (n, k)) :
    Calls Tryd.prog 63 #[.string s] w fun e w' => w = w' ∧ e = .returned (.tuple #[.int .u64 n, .int .i64 k, .int .i64 0]) :=
  (get_any s w hs).mono fun _ _ ⟨hw, he⟩ => by rw [h] at he; exact ⟨hw, he⟩
theorem getV_lt {l : List UInt8} {n k : Nat} (h : getV l = some (n, k)) : n < 18446744073709551616 := getVAt_lt 10 0 0 l n k (by omega) (by omega) h
set_option maxRecDepth 100000 in
set_option maxHeartbeats 2000000 in
theorem getString_any (s : ByteArray) (w : World) (hs : s.size ≤ 70368744177664) :
    Calls Tryd.prog 49 #[.string s] w (RetS s.data.toList w) := by
  cases hv : getV s.data.toList with
  | none =>
    have HG := Lib.hid (get_none s w hs hv)
    have HR : Hid (getStr s.data.toList = none) := Lib.hid (by unfold getStr; rw [hv])
    clear hv
    go_enter Tryd.func49, Tryd.ntmps49
    go_wp2_with fail
    refine HG.out.mono ?_
    rintro e w' ⟨rfl, c, hc, rfl⟩
    have hc1 : (c == 0) = false := by simpa using hc
    have hc2 : (c != 0) = true := by simpa using hc
    go_wp2_with fail
    go_ret3
    exact ret_s_none HR.out c hc
  | some x =>
    obtain ⟨n, k⟩ := x
    have HG := Lib.hid (get_some s w hs n k hv)
    have hle := getV_le hv
    rw [len_data] at hle
    have hn := getV_lt hv
    obtain ⟨k0, k1, k2⟩ := hle
    by_cases hq : s.size - k < n
    · have HR : Hid (getStr s.data.toList = none) := Lib.hid (by unfold getStr; rw [hv]; simp only []; rw [len_data, if_pos hq])
      clear hv
      have hq' : (s.size : Int) - (k : Int) < (n : Int) := by omega
      go_enter Tryd.func49, Tryd.ntmps49
      go_wp2_with fail
      refine HG.out.mono ?_
      rintro e w' ⟨rfl, rfl⟩
      go_wp2_with fail
      go_ret3
      exact ret_s_none HR.out 9 (by decide)
    · have HR : Hid (getStr s.data.toList = some ((s.data.toList.drop k).take n, k + n)) := Lib.hid (by unfold getStr; rw [hv]; simp only []; rw [len_data, if_neg hq])
      clear hv
      have hq' : ¬ (s.size : Int) - (k : Int) < (n : Int) := by omega
      have hn2 : n ≤ 70368744177664 := by omega
      have HX := Lib.hid (ext_mid s k (k + n))
      go_enter Tryd.func49, Tryd.ntmps49
      go_wp2_with fail
      refine HG.out.mono ?_
      rintro e w' ⟨rfl, rfl⟩
      go_wp2_with fail
      go_ret3
      exact ret_s_some HR.out (by rw [HX.out, show k + n - k = n from by omega]) (by go_num)
end Go.Proofs.YthmoplkleopahaaDoor
