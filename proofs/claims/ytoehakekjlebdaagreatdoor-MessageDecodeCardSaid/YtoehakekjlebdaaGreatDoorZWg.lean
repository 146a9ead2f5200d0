/- The contracts of wire's readers: Get, GetString, GetList. -/
import Derived.Test.YtoehakekjlebdaaGreatDoorZWa
import Derived.Test.YtoehakekjlebdaaGreatDoorZPl
import Derived.Laws.Bits64b
import Derived.Lib.BitFns
namespace Go.Proofs.YtoehakekjlebdaaGreatDoor
open Go.RowKit

theorem and127' : ∀ n : Fin 256, bits BinOp.and IntKind.u8 (n.val : Int) 127 = (n.val : Int) % 128 := by decide +kernel
theorem and127 (n : Nat) (h : n < 256) : bits BinOp.and IntKind.u8 (n : Int) 127 = ((n % 128 : Nat) : Int) := by
  rw [and127' ⟨n, h⟩]; rfl
theorem len_test' : ∀ (c : Fin 128) (k : Fin 10), decide (64 < Lib.bitLen c.val + 7 * k.val) = decide (18446744073709551616 ≤ c.val * 128 ^ k.val) := by decide +kernel
theorem len_test (c k : Nat) (hc : c < 128) (hk : k ≤ 9) : 64 < Lib.bitLen c + 7 * k ↔ 18446744073709551616 ≤ c * 128 ^ k := by
  have := len_test' ⟨c, hc⟩ ⟨k, by omega⟩
  simpa using this
theorem bitLen_le' : ∀ c : Fin 128, Lib.bitLen c.val ≤ 7 := by decide +kernel
theorem or_shift (a c k : Nat) (ha : a < 128 ^ k) (hb : a + c * 128 ^ k < 18446744073709551616) :
    bits BinOp.or IntKind.u64 (a : Int) (IntKind.u64.wrap (IntKind.u64.wrap (c : Int) * 2 ^ (7 * k))) = ((a + c * 128 ^ k : Nat) : Int) := by
  have e : (128 : Nat) ^ k = 2 ^ (7 * k) := by rw [Nat.pow_mul]
  have hp : 1 ≤ 128 ^ k := Nat.pow_pos (by omega)
  have hc : c ≤ c * 128 ^ k := Nat.le_mul_of_pos_right c hp
  have h1 : IntKind.u64.wrap (c : Int) = (c : Int) := by rw [IntKind.wrap_u64]; omega
  have h2 : (c : Int) * 2 ^ (7 * k) = ((c * 128 ^ k : Nat) : Int) := by rw [e]; simp
  have h3 : IntKind.u64.wrap ((c * 128 ^ k : Nat) : Int) = ((c * 128 ^ k : Nat) : Int) := by rw [IntKind.wrap_u64]; omega
  rw [h1, h2, h3, bits_or_u64_nat _ _ (by omega) (by omega)]
  congr 1
  rw [Nat.or_comm, e, ← Nat.shiftLeft_eq, ← Nat.shiftLeft_add_eq_or_of_lt (by rw [← e]; exact ha), Nat.add_comm]
theorem or_shift' (a c k : Nat) (ha : a < 128 ^ k) (hb : a + c * 128 ^ k < 18446744073709551616) :
    bits BinOp.or IntKind.u64 (a : Int) (IntKind.u64.wrap ((c : Int) * 2 ^ (7 * k))) = ((a + c * 128 ^ k : Nat) : Int) := by
  have hp : 1 ≤ 128 ^ k := Nat.pow_pos (by omega)
  have hc : c ≤ c * 128 ^ k := Nat.le_mul_of_pos_right c hp
  have h1 : IntKind.u64.wrap (c : Int) = (c : Int) := by rw [IntKind.wrap_u64]; omega
  have := or_shift a c k ha hb
  rwa [h1] at this
theorem getVAt_at (s : ByteArray) (k a : Nat) (h : k < s.size) (hk : k ≤ 9) : getVAt (10 - k) k a (s.data.toList.drop k) =
    if 128 ≤ s[k].toNat then getVAt (10 - (k + 1)) (k + 1) (a + (s[k].toNat - 128) * 128 ^ k) (s.data.toList.drop (k + 1))
    else if 18446744073709551616 ≤ s[k].toNat * 128 ^ k then none else if s[k].toNat = 0 ∧ 0 < k then none else some (a + s[k].toNat * 128 ^ k, k + 1) := by
  rw [drop_at s k h, show 10 - k = (10 - (k + 1)) + 1 from by omega, getVAt]
theorem getVAt_end (s : ByteArray) (k a : Nat) (h : k = s.size ∨ k = 10) : getVAt (10 - k) k a (s.data.toList.drop k) = none := by
  rcases h with rfl | rfl
  · rw [List.drop_eq_nil_of_le (by simp)]
    cases 10 - s.size <;> rfl
  · rfl
def RetV (l : List UInt8) (w : World) (e : Ending) (w' : World) : Prop := w = w' ∧ match getV l with
  | some (n, k) => e = .returned (.tuple #[.int .u64 n, .int .i64 k, .int .i64 0])
  | none => ∃ c : Int, c ≠ 0 ∧ e = .returned (.tuple #[.int .u64 0, .int .i64 0, .int .i64 c])
theorem ret_v_none {l : List UInt8} {w : World} (h : getV l = none) (c : Int) (hc : c ≠ 0) : RetV l w (.returned (.tuple #[.int .u64 0, .int .i64 0, .int .i64 c])) w := by
  refine ⟨rfl, ?_⟩
  rw [h]
  exact ⟨c, hc, rfl⟩
theorem ret_v_some {l : List UInt8} {w : World} {n k : Nat} {x y : Int} (h : getV l = some (n, k)) (hx : x = (n : Int)) (hy : Value.int .i64 y = .int .i64 (k : Int)) : RetV l w (.returned (.tuple #[.int .u64 x, .int .i64 y, .int .i64 0])) w := by
  refine ⟨rfl, ?_⟩
  rw [h, hx, hy]
set_option maxRecDepth 100000 in
set_option maxHeartbeats 2000000 in
theorem get_any (s : ByteArray) (w : World) (hs : s.size ≤ 70368744177664) :
    Calls Tryz.prog 125 #[.string s] w (RetV s.data.toList w) := by
  obtain ⟨m, hm⟩ : ∃ m : Nat, m = min s.size 10 := ⟨_, rfl⟩
  have hmm : min (s.size : Int) 10 = (m : Int) := by omega
  have m1 : m ≤ 10 := by omega
  have m2 : m ≤ s.size := by omega
  have HM : Hid (m < 10 → m = s.size) := Lib.hid (by omega)
  clear hm
  go_enter Tryz.func125, Tryz.ntmps125
  go_wp2_with fail
  clear hmm
  go_loop [5, 11] (fun n i => ∃ (k a : Nat) (v : Int), i = .int .i64 k ∧ k ≤ m ∧ n = .int .u64 v ∧ (k ≤ 9 → v = a) ∧ a < 128 ^ k ∧ getV s.data.toList = getVAt (10 - k) k a (s.data.toList.drop k)) (fun _ i => m - (intOf i).toNat)
  case atStart => exact ⟨0, 0, 0, rfl, by omega, rfl, fun _ => rfl, by omega, rfl⟩
  case round =>
    obtain ⟨k, a, v, rfl, hk, rfl, hv, ha, hg⟩ := hrel
    have HG := Lib.hid hg
    clear hg
    by_cases hlt : k < m
    · have hks : k < s.size := by omega
      obtain rfl : v = a := hv (by omega)
      clear hv
      have hc := byte_lt s[k]
      by_cases hb : 128 ≤ s[k].toNat
      · go_wp2_with fail
        go_round
        case rel =>
          have hpow : 128 ^ (k + 1) = 128 ^ k * 128 := Nat.pow_succ 128 k
          have hmul : (s[k].toNat - 128) * 128 ^ k ≤ 127 * 128 ^ k := Nat.mul_le_mul_right _ (by omega)
          refine ⟨k + 1, a + (s[k].toNat - 128) * 128 ^ k, _, by go_num, by omega, rfl, fun h9 => ?_, by omega, ?_⟩
          · have h8 : 128 ^ (k + 1) ≤ 128 ^ 9 := Nat.pow_le_pow_right (by omega) h9
            rw [and127 _ hc, show s[k].toNat % 128 = s[k].toNat - 128 from by omega]
            exact or_shift a _ k ha (by omega)
          · rw [HG.out, getVAt_at s k a hks (by omega), if_pos hb]
        case measure => simp [intOf]; omega
      · have hbl := bitLen_le' ⟨s[k].toNat, by omega⟩
        simp only [] at hbl
        have HT := Lib.hid (len_test s[k].toNat k (by omega) (by omega))
        by_cases hq : 64 < Lib.bitLen s[k].toNat + 7 * k
        · have hr : getV s.data.toList = none := by rw [HG.out, getVAt_at s k a hks (by omega), if_neg hb, if_pos (HT.out.1 hq)]
          have HR := Lib.hid hr
          clear hr
          have hq' : (64 : Int) < (Lib.bitLen s[k].toNat : Int) + 7 * (k : Int) := by omega
          go_wp2_with (go_at_call 141; refine (Tryz.bits_Len8 _ _ (by omega) (by omega)).mono ?_; rintro e w' ⟨rfl, rfl⟩)
          go_ret3
          exact ret_v_none HR.out _ (by decide)
        · have hq' : ¬ (64 : Int) < (Lib.bitLen s[k].toNat : Int) + 7 * (k : Int) := by omega
          have hlt2 := fun h => hq (HT.out.2 h)
          by_cases hz : s[k].toNat = 0 ∧ 0 < k
          · have hr : getV s.data.toList = none := by rw [HG.out, getVAt_at s k a hks (by omega), if_neg hb, if_neg hlt2, if_pos hz]
            have HR := Lib.hid hr
            have hz1 : ((s[k].toNat : Int) == 0) = true := by simp; exact hz.1
            have hz2 : (0 : Int) < (k : Int) := by omega
            clear hr hlt2 hz
            go_wp2_with (go_at_call 141; refine (Tryz.bits_Len8 _ _ (by omega) (by omega)).mono ?_; rintro e w' ⟨rfl, rfl⟩)
            go_ret3
            exact ret_v_none HR.out _ (by decide)
          · have hr : getV s.data.toList = some (a + s[k].toNat * 128 ^ k, k + 1) := by rw [HG.out, getVAt_at s k a hks (by omega), if_neg hb, if_neg hlt2, if_neg hz]
            have HR := Lib.hid hr
            have HO := Lib.hid (or_shift' a s[k].toNat k ha (step_fit a _ k (by omega) (by omega) ha hlt2))
            clear hr hlt2
            have hz1 : ((s[k].toNat : Int) == 0) = false ∨ (((s[k].toNat : Int) == 0) = true ∧ ¬ (0 : Int) < (k : Int)) := by
              by_cases h0 : s[k].toNat = 0
              · right; constructor
                · simp; exact h0
                · omega
              · left; simp; exact h0
            clear hz
            rcases hz1 with hz1 | ⟨hz1, hz2⟩
            all_goals
              go_wp2_with (go_at_call 141; refine (Tryz.bits_Len8 _ _ (by omega) (by omega)).mono ?_; rintro e w' ⟨rfl, rfl⟩)
              go_ret3
              exact ret_v_some HR.out (HO.out) (by go_num)
    · have hr : getV s.data.toList = none := by
        rw [HG.out]; exact getVAt_end s k a (by
          have := HM.out
          omega)
      have HR := Lib.hid hr
      clear hr
      go_wp2_with fail
      all_goals
        go_ret3
        exact ret_v_none HR.out _ (by decide)

def RetS (l : List UInt8) (w : World) (e : Ending) (w' : World) : Prop := w = w' ∧ match getStr l with
  | some (x, k) => e = .returned (.tuple #[.string ⟨x.toArray⟩, .int .i64 k, .int .i64 0])
  | none => ∃ c : Int, c ≠ 0 ∧ e = .returned (.tuple #[.string ⟨#[]⟩, .int .i64 0, .int .i64 c])
theorem ret_s_none {l : List UInt8} {w : World} (h : getStr l = none) (c : Int) (hc : c ≠ 0) : RetS l w (.returned (.tuple #[.string ⟨#[]⟩, .int .i64 0, .int .i64 c])) w := by
  refine ⟨rfl, ?_⟩
  rw [h]
  exact ⟨c, hc, rfl⟩
theorem ret_s_some {l x : List UInt8} {w : World} {k : Nat} {y : Int} {z : ByteArray} (h : getStr l = some (x, k)) (hx : z = ⟨x.toArray⟩) (hy : Value.int .i64 y = .int .i64 (k : Int)) : RetS l w (.returned (.tuple #[.string z, .int .i64 y, .int .i64 0])) w := by
  refine ⟨rfl, ?_⟩
  rw [h, hx, hy]
theorem get_none (s : ByteArray) (w : World) (hs : s.size ≤ 70368744177664) (h : getV s.data.toList = none) :
    Calls Tryz.prog 125 #[.string s] w fun e w' => w = w' ∧ ∃ c : Int, c ≠ 0 ∧ e = .returned (.tuple #[.int .u64 0, .int .i64 0, .int .i64 c]) :=
  (get_any s w hs).mono fun _ _ ⟨hw, he⟩ => by rw [h] at he; exact ⟨hw, he⟩
theorem get_some (s : ByteArray) (w : World) (hs : s.size ≤ 70368744177664) (n k : Nat) (h : getV s.data.toList = some (n, k)) :
    Calls Tryz.prog 125 #[.string s] w fun e w' => w = w' ∧ e = .returned (.tuple #[.int .u64 n, .int .i64 k, .int .i64 0]) :=
  (get_any s w hs).mono fun _ _ ⟨hw, he⟩ => by rw [h] at he; exact ⟨hw, he⟩
theorem getV_lt {l : List UInt8} {n k : Nat} (h : getV l = some (n, k)) : n < 18446744073709551616 := getVAt_lt 10 0 0 l n k (by omega) (by omega) h
set_option maxRecDepth 100000 in
set_option maxHeartbeats 2000000 in
theorem getString_any (s : ByteArray) (w : World) (hs : s.size ≤ 70368744177664) :
    Calls Tryz.prog 103 #[.string s] w (RetS s.data.toList w) := by
  cases hv : getV s.data.toList with
  | none =>
    have HG := Lib.hid (get_none s w hs hv)
    have HR : Hid (getStr s.data.toList = none) := Lib.hid (by unfold getStr; rw [hv])
    clear hv
    go_enter Tryz.func103, Tryz.ntmps103
    go_wp2_with fail
    refine HG.out.mono ?_
    rintro e w' ⟨rfl, c, hc, rfl⟩
    have hc1 : (c == 0) = false := by simpa using hc
    have hc2 : (c != 0) = true := by simpa using hc
    go_wp2_with fail
    go_ret3
    exact ret_s_none HR.out c hc
  | some x =>
    obtain ⟨n, k⟩ := x
    have HG := Lib.hid (get_some s w hs n k hv)
    have hle := getV_le hv
    rw [len_data] at hle
    have hn := getV_lt hv
    obtain ⟨k0, k1, k2⟩ := hle
    by_cases hq : s.size - k < n
    · have HR : Hid (getStr s.data.toList = none) := Lib.hid (by unfold getStr; rw [hv]; simp only []; rw [len_data, if_pos hq])
      clear hv
      have hq' : (s.size : Int) - (k : Int) < (n : Int) := by omega
      go_enter Tryz.func103, Tryz.ntmps103
      go_wp2_with fail
      refine HG.out.mono ?_
      rintro e w' ⟨rfl, rfl⟩
      go_wp2_with fail
      go_ret3
      exact ret_s_none HR.out 9 (by decide)
    · have HR : Hid (getStr s.data.toList = some ((s.data.toList.drop k).take n, k + n)) := Lib.hid (by unfold getStr; rw [hv]; simp only []; rw [len_data, if_neg hq])
      clear hv
      have hq' : ¬ (s.size : Int) - (k : Int) < (n : Int) := by omega
      have hn2 : n ≤ 70368744177664 := by omega
      have HX := Lib.hid (ext_mid s k (k + n))
      go_enter Tryz.func103, Tryz.ntmps103
      go_wp2_with fail
      refine HG.out.mono ?_
      rintro e w' ⟨rfl, rfl⟩
      go_wp2_with fail
      go_ret3
      exact ret_s_some HR.out (by rw [HX.out, show k + n - k = n from by omega]) (by go_num)
end Go.Proofs.YtoehakekjlebdaaGreatDoor
/- The contract of wire.GetList. -/
namespace Go.Proofs.YtoehakekjlebdaaGreatDoor
open Go.RowKit

def RetL (l : List UInt8) (w : World) (e : Ending) (w' : World) : Prop := Below w.heap.size w w' ∧ match getList l with
  | some (xs, k) => ∃ A c, e = .returned (.tuple #[.slice A xs.length c, .int .i64 k, .int .i64 0]) ∧ Rd w' 1 A xs.length (strC xs) ∧ xs.length ≤ c
  | none => ∃ c : Int, c ≠ 0 ∧ e = .returned (.tuple #[.slice none 0 0, .int .i64 0, .int .i64 c])
theorem ret_l_none {l : List UInt8} {w w' : World} (h : getList l = none) (c : Int) (hc : c ≠ 0) (hb : Below w.heap.size w w') : RetL l w (.returned (.tuple #[.slice none 0 0, .int .i64 0, .int .i64 c])) w' := by
  refine ⟨hb, ?_⟩
  rw [h]
  exact ⟨c, hc, rfl⟩
theorem ret_l_some {l : List UInt8} {w w' : World} {xs : List (List UInt8)} {k n : Nat} {A : Option Addr} {c : Nat} (h : getList l = some (xs, k)) (hn : n = xs.length) (hr : Rd w' 1 A n (strC xs)) (hc : n ≤ c) (hb : Below w.heap.size w w') : RetL l w (.returned (.tuple #[.slice A n c, .int .i64 k, .int .i64 0])) w' := by
  refine ⟨hb, ?_⟩
  rw [h]
  subst hn
  exact ⟨A, c, rfl, hr, hc⟩
theorem gets_none (s : ByteArray) (w : World) (hs : s.size ≤ 70368744177664) (h : getStr s.data.toList = none) :
    Calls Tryz.prog 103 #[.string s] w fun e w' => w = w' ∧ ∃ c : Int, c ≠ 0 ∧ e = .returned (.tuple #[.string ⟨#[]⟩, .int .i64 0, .int .i64 c]) :=
  (getString_any s w hs).mono fun _ _ ⟨hw, he⟩ => by rw [h] at he; exact ⟨hw, he⟩
theorem gets_some (s : ByteArray) (w : World) (hs : s.size ≤ 70368744177664) (x : List UInt8) (k : Nat) (h : getStr s.data.toList = some (x, k)) :
    Calls Tryz.prog 103 #[.string s] w fun e w' => w = w' ∧ e = .returned (.tuple #[.string ⟨x.toArray⟩, .int .i64 k, .int .i64 0]) :=
  (getString_any s w hs).mono fun _ _ ⟨hw, he⟩ => by rw [h] at he; exact ⟨hw, he⟩
theorem own_cap {w : World} {base e k n : Nat} {A : Option Addr} {c : Nat} {xs : List Value} (h : w.ownsRow base e k (.slice A n c) n xs) : n ≤ c := by
  rcases h.2 with ⟨h1, h2⟩ | ⟨g, cap, cur, hv, _, _, hrest⟩
  · omega
  · injection hv with _ _ h3
    subst h3
    omega
theorem ext_end (s : ByteArray) (k : Nat) (_h : k ≤ s.size) : (s.extract k s.size).data.toList = s.data.toList.drop k := by
  rw [Lib.extract_data, List.take_of_length_le (by simp)]
set_option maxRecDepth 100000 in
set_option maxHeartbeats 4000000 in
theorem listStr_any (s : ByteArray) (w : World) (hs : s.size ≤ 1099511627776) :
    Calls Tryz.prog 131 #[.string s, .func (.func 103) #[] #[]] w (RetL s.data.toList w) := by
  cases hv : getV s.data.toList with
  | none =>
    have HG := Lib.hid (get_none s w (by omega) hv)
    have HR : Hid (getList s.data.toList = none) := Lib.hid (by unfold getList getAll; rw [hv])
    clear hv
    go_enter Tryz.func131, Tryz.ntmps131
    go_wp2_with fail
    refine HG.out.mono ?_
    rintro e w' ⟨rfl, c, hc, rfl⟩
    have hc1 : (c == 0) = false := by simpa using hc
    have hc2 : (c != 0) = true := by simpa using hc
    go_wp2_with fail
    go_ret3
    exact ret_l_none HR.out c hc (Below.refl _ _)
  | some x =>
    obtain ⟨n, k⟩ := x
    have HG := Lib.hid (get_some s w (by omega) n k hv)
    have hle := getV_le hv
    rw [len_data] at hle
    have hn := getV_lt hv
    obtain ⟨k0, k1, k2⟩ := hle
    have HL : Hid (getList s.data.toList = match getMany getStr n (s.data.toList.drop k) with
      | none => none
      | some (xs, m) => some (xs, k + m)) := Lib.hid (by unfold getList getAll; rw [hv]; simp only []; cases getMany getStr n (List.drop k s.data.toList) <;> rfl)
    obtain ⟨i0, hi, hz0, hz1, hz2⟩ := info_parts infoS
    have HI := Lib.hid hi
    have HZ0 := Lib.hid hz0
    have HZ1 := Lib.hid hz1
    have HZ2 := Lib.hid hz2
    clear hi hz0 hz1 hz2 hv
    go_enter Tryz.func131, Tryz.ntmps131
    go_wp2_with fail
    refine HG.out.mono ?_
    rintro e w' ⟨rfl, rfl⟩
    go_wp2_with fail
    go_loopw [8, 10, 24] (fun a o i wr => ∃ (j p : Nat) (xs : List (List UInt8)), i = .int .u64 j ∧ j ≤ n ∧ a = .int .i64 p ∧ p ≤ s.size ∧ j ≤ p ∧ xs.length = j ∧ wr.ownsRow w.heap.size 9 1 o j (strC xs) ∧ Below w.heap.size w wr ∧ w.heap.size ≤ wr.heap.size ∧
      getList s.data.toList = (match getMany getStr (n - j) (s.data.toList.drop p) with
      | none => none
      | some (ys, m) => some (xs ++ ys, p + m))) (fun _ _ i _ => n - (intOf i).toNat)
    case atStart => exact ⟨0, k, [], rfl, by omega, rfl, k2, by omega, rfl, World.ownsRow_nil _ _ _ _, Below.refl _ _, Nat.le_refl _, by rw [HL.out]; simp⟩
    case round =>
      obtain ⟨j, p, xs, rfl, hj, rfl, hp, hjp, hxs, hown, hb, hge, hL⟩ := hrel
      have HO := Lib.hid hown
      have HB := Lib.hid hb
      have HX := Lib.hid hxs
      have HE := Lib.hid hL
      clear hown hb hxs hL
      by_cases hlt : j < n
      · have hj' : (j : Int) < (n : Int) := by omega
        have hsl : (s.extract p s.size).size = s.size - p := by simp
        have HD := Lib.hid (ext_end s p hp)
        have hmany : n - j = (n - (j + 1)) + 1 := by omega
        cases hg : getStr (s.data.toList.drop p) with
        | none =>
          have HG1 := Lib.hid (gets_none (s.extract p s.size) wr (by omega) (by rw [HD.out]; exact hg))
          have HR : Hid (getList s.data.toList = none) := Lib.hid (by rw [HE.out, hmany, getMany, hg])
          clear hg hsl hmany
          go_wp2_with fail
          refine HG1.out.mono ?_
          rintro e w' ⟨rfl, c, hc, rfl⟩
          have hc1 : (c == 0) = false := by simpa using hc
          have hc2 : (c != 0) = true := by simpa using hc
          go_wp2_with fail
          go_ret3
          exact ret_l_none HR.out c hc HB.out
        | some x =>
          obtain ⟨x, q⟩ := x
          have HG1 := Lib.hid (gets_some (s.extract p s.size) wr (by omega) x q (by rw [HD.out]; exact hg))
          have hq := getStr_le hg
          simp only [List.length_drop, len_data] at hq
          obtain ⟨q0, q1, q2⟩ := hq
          have HR : Hid (getList s.data.toList = (match getMany getStr (n - (j + 1)) (s.data.toList.drop (p + q)) with
            | none => none
            | some (ys, m) => some (xs ++ [x] ++ ys, p + q + m))) := Lib.hid (by
              rw [HE.out, hmany, getMany, hg]
              simp only [List.drop_drop]
              cases getMany getStr (n - (j + 1)) (s.data.toList.drop (p + q)) with
              | none => rfl
              | some y => obtain ⟨ys, m⟩ := y; simp [Nat.add_assoc])
          clear hg hsl hmany
          go_wp2_with fail
          refine HG1.out.mono ?_
          rintro e w' ⟨rfl, rfl⟩
          go_wp2_with (at_builtin; refine wpList_append_own _ rfl _ _ 31 rfl w.heap.size 9 i0 _ 1 16 Tryz.underlying31 HI.out HZ0.out HZ1.out HZ2.out rfl (by decide) _ _ _ rfl (HO.out.alloc _) ⟨wr.heap.size, 0, none⟩ 1 1 [.string ⟨x.toArray⟩] rfl rfl (cell_new _ _ _ _ rfl) (by simp [Value.oneCell']) (by simp [maxLen]; omega) (by omega) (by simp; omega) ?_)
          intro v' w2 hown' hgrow _
          have HO2 := Lib.hid hown'
          have HG2 := Lib.hid hgrow
          clear hown' hgrow
          go_wp2_with fail
          go_roundw
          case rel =>
            refine ⟨j + 1, p + q, xs ++ [x], by go_num, by omega, by go_num, by omega, by omega, by simp [HX.out], ?_, below_grown (HB.out.alloc hge _) (by simp; omega) HG2.out (fun g hg => (HO.out.lt g hg).1), ?_, HR.out⟩
            · rw [strC_snoc]; exact HO2.out
            · have := HG2.out.size; simp at this; omega
          case measure => simp [intOf]; omega
      · have hjn : j = n := by omega
        have HR : Hid (getList s.data.toList = some (xs, p)) := Lib.hid (by rw [HE.out, hjn, Nat.sub_self, getMany]; simp)
        obtain ⟨A, c, hv⟩ := ownsRow_form HO.out
        subst hv
        have hj' : ¬ (j : Int) < (n : Int) := by omega
        clear hjn
        go_wp2_with fail
        go_ret3
        exact ret_l_some HR.out HX.out.symm (Rd.own HO.out) (own_cap HO.out) HB.out
theorem retL_none {P : Program} {f : FuncId} {args : Array Value} {l : List UInt8} {w : World} (h : Calls P f args w (RetL l w)) (hl : getList l = none) :
    Calls P f args w fun e w' => (∃ c : Int, c ≠ 0 ∧ e = .returned (.tuple #[.slice none 0 0, .int .i64 0, .int .i64 c])) ∧ Below w.heap.size w w' :=
  h.mono fun _ _ ⟨hw, he⟩ => by rw [hl] at he; exact ⟨he, hw⟩
theorem retL_some {P : Program} {f : FuncId} {args : Array Value} {l : List UInt8} {w : World} {xs : List (List UInt8)} {k : Nat} (h : Calls P f args w (RetL l w)) (hl : getList l = some (xs, k)) :
    Calls P f args w fun e w' => (∃ A c, e = .returned (.tuple #[.slice A xs.length c, .int .i64 k, .int .i64 0]) ∧ Rd w' 1 A xs.length (strC xs) ∧ xs.length ≤ c) ∧ Below w.heap.size w w' :=
  h.mono fun _ _ ⟨hw, he⟩ => by rw [hl] at he; exact ⟨he, hw⟩
set_option maxRecDepth 100000 in
set_option maxHeartbeats 2000000 in
theorem getList_any (s : ByteArray) (w : World) (hs : s.size ≤ 1099511627776) :
    Calls Tryz.prog 114 #[.string s] w (RetL s.data.toList w) := by
  have hL := listStr_any s w hs
  cases hl : getList s.data.toList with
  | none =>
    have HL := Lib.hid (retL_none hL hl)
    have HR := Lib.hid hl
    clear hl hL
    go_enter Tryz.func114, Tryz.ntmps114
    go_wp2_with fail
    refine HL.out.mono ?_
    rintro e w' ⟨⟨c, hc, rfl⟩, hb⟩
    go_wp2_with fail
    go_ret3
    exact ret_l_none HR.out c hc hb
  | some x =>
    obtain ⟨xs, k⟩ := x
    have HL := Lib.hid (retL_some hL hl)
    have HR := Lib.hid hl
    clear hl hL
    go_enter Tryz.func114, Tryz.ntmps114
    go_wp2_with fail
    refine HL.out.mono ?_
    rintro e w' ⟨⟨A, c, rfl, hr, hc⟩, hb⟩
    go_wp2_with fail
    go_ret3
    exact ret_l_some HR.out rfl hr hc hb
end Go.Proofs.YtoehakekjlebdaaGreatDoor
/- The contract of wire.GetInts. -/
namespace Go.Proofs.YtoehakekjlebdaaGreatDoor
open Go.RowKit

theorem xor_zero_i64 (m : Nat) (h : m < 9223372036854775808) : bits .xor .i64 (m : Int) 0 = m := by
  have h1 : (BitVec.ofInt 64 (m : Int)).toNat = m := by
    rw [BitVec.ofInt_natCast, BitVec.toNat_ofNat]; exact Nat.mod_eq_of_lt (by omega)
  show IntKind.i64.wrap ((BitVec.ofInt 64 (m : Int) ^^^ BitVec.ofInt 64 0).toNat : Int) = _
  rw [show BitVec.ofInt 64 0 = 0#64 from rfl, BitVec.xor_zero, h1]
  simp [IntKind.wrap, IntKind.signed, IntKind.bits]; omega
theorem xor_ones_i64 (m : Nat) (h : m < 9223372036854775808) : bits .xor .i64 (m : Int) (-1) = -(m : Int) - 1 := by
  have h1 : (BitVec.ofInt 64 (m : Int)).toNat = m := by
    rw [BitVec.ofInt_natCast, BitVec.toNat_ofNat]; exact Nat.mod_eq_of_lt (by omega)
  show IntKind.i64.wrap ((BitVec.ofInt 64 (m : Int) ^^^ BitVec.ofInt 64 (-1)).toNat : Int) = _
  rw [show BitVec.ofInt 64 (-1) = BitVec.allOnes 64 from by decide, BitVec.xor_allOnes, BitVec.toNat_not, h1]
  simp [IntKind.wrap, IntKind.signed, IntKind.bits]; omega
theorem unzig_bits (n : Nat) (hn : n < 18446744073709551616) : bits BinOp.xor IntKind.i64 ((n : Int) / 2) (wrap64 (-wrap64 (bits BinOp.and IntKind.u64 (n : Int) 1))) = unzig n := by
  have ha : bits BinOp.and IntKind.u64 (n : Int) 1 = ((n % 2 : Nat) : Int) := by
    have := bits_and_u64_nat n 1 hn (by omega)
    rw [Nat.and_one_is_mod] at this
    exact this
  have hd : (n : Int) / 2 = ((n / 2 : Nat) : Int) := by omega
  rw [ha, hd]
  unfold unzig
  by_cases h : n % 2 = 0
  · rw [if_pos h, h, show wrap64 (-wrap64 ((0 : Nat) : Int)) = 0 from by simp [wrap64]]
    exact xor_zero_i64 _ (by omega)
  · rw [if_neg h, show n % 2 = 1 from by omega, show wrap64 (-wrap64 ((1 : Nat) : Int)) = -1 from by simp [wrap64]]
    exact xor_ones_i64 _ (by omega)
theorem infoN : (Tryz.prog.info? 3).map (fun i => (i.zero, i.size, i.bytes)) = some (some (.int .i64 0), 1, 8) := by kernel_rfl
theorem intC_snoc (l : List Int) (x : Int) : intC (l ++ [x]) = intC l ++ [.int .i64 x] := by simp [intC]
theorem getInt_leW {s : List UInt8} {x : Int} {k : Nat} (h : getInt s = some (x, k)) : 0 < k ∧ k ≤ s.length := by
  unfold getInt at h
  cases hv : getV s with
  | none => rw [hv] at h; simp at h
  | some y =>
    rw [hv] at h
    obtain ⟨n, m⟩ := y
    simp only [Option.map_some, Option.some.injEq, Prod.mk.injEq] at h
    obtain ⟨_, rfl⟩ := h
    have := getV_le hv
    omega
def RetI (l : List UInt8) (w : World) (e : Ending) (w' : World) : Prop := w = w' ∧ match getInt l with
  | some (x, k) => e = .returned (.tuple #[.int .i64 x, .int .i64 k, .int .i64 0])
  | none => ∃ c : Int, c ≠ 0 ∧ e = .returned (.tuple #[.int .i64 0, .int .i64 0, .int .i64 c])
theorem ret_i_none {l : List UInt8} {w : World} (h : getInt l = none) (c : Int) (hc : c ≠ 0) : RetI l w (.returned (.tuple #[.int .i64 0, .int .i64 0, .int .i64 c])) w := by
  refine ⟨rfl, ?_⟩; rw [h]; exact ⟨c, hc, rfl⟩
theorem ret_i_some {l : List UInt8} {w : World} {x y : Int} {k : Nat} (h : getInt l = some (x, k)) (hy : y = x) : RetI l w (.returned (.tuple #[.int .i64 y, .int .i64 k, .int .i64 0])) w := by
  refine ⟨rfl, ?_⟩; rw [h, hy]
set_option maxRecDepth 100000 in
set_option maxHeartbeats 2000000 in
theorem integer_any (s : ByteArray) (w : World) (hs : s.size ≤ 70368744177664) :
    Calls Tryz.prog 124 #[.string s] w (RetI s.data.toList w) := by
  cases hv : getV s.data.toList with
  | none =>
    have HG := Lib.hid (get_none s w hs hv)
    have HR : Hid (getInt s.data.toList = none) := Lib.hid (by unfold getInt; rw [hv]; rfl)
    clear hv
    go_enter Tryz.func124, Tryz.ntmps124
    go_wp2_with fail
    refine HG.out.mono ?_
    rintro e w' ⟨rfl, c, hc, rfl⟩
    have hc1 : (c == 0) = false := by simpa using hc
    have hc2 : (c != 0) = true := by simpa using hc
    go_wp2_with fail
    go_ret3
    exact ret_i_none HR.out c hc
  | some x =>
    obtain ⟨n, k⟩ := x
    have HG := Lib.hid (get_some s w hs n k hv)
    have hn := getV_lt hv
    have HR : Hid (getInt s.data.toList = some (unzig n, k)) := Lib.hid (by unfold getInt; rw [hv]; rfl)
    clear hv
    go_enter Tryz.func124, Tryz.ntmps124
    go_wp2_with fail
    refine HG.out.mono ?_
    rintro e w' ⟨rfl, rfl⟩
    go_wp2_with fail
    go_ret3
    exact ret_i_some HR.out (unzig_bits n hn)
theorem geti_none (s : ByteArray) (w : World) (hs : s.size ≤ 70368744177664) (h : getInt s.data.toList = none) :
    Calls Tryz.prog 124 #[.string s] w fun e w' => w = w' ∧ ∃ c : Int, c ≠ 0 ∧ e = .returned (.tuple #[.int .i64 0, .int .i64 0, .int .i64 c]) :=
  (integer_any s w hs).mono fun _ _ ⟨hw, he⟩ => by rw [h] at he; exact ⟨hw, he⟩
theorem geti_some (s : ByteArray) (w : World) (hs : s.size ≤ 70368744177664) (x : Int) (k : Nat) (h : getInt s.data.toList = some (x, k)) :
    Calls Tryz.prog 124 #[.string s] w fun e w' => w = w' ∧ e = .returned (.tuple #[.int .i64 x, .int .i64 k, .int .i64 0]) :=
  (integer_any s w hs).mono fun _ _ ⟨hw, he⟩ => by rw [h] at he; exact ⟨hw, he⟩
def RetN (l : List UInt8) (w : World) (e : Ending) (w' : World) : Prop := Below w.heap.size w w' ∧ match getInts l with
  | some (xs, k) => ∃ A c, e = .returned (.tuple #[.slice A xs.length c, .int .i64 k, .int .i64 0]) ∧ w'.ownsRow w.heap.size 3 1 (.slice A xs.length c) xs.length (intC xs)
  | none => ∃ c : Int, c ≠ 0 ∧ e = .returned (.tuple #[.slice none 0 0, .int .i64 0, .int .i64 c])
theorem ret_n_none {l : List UInt8} {w w' : World} (h : getInts l = none) (c : Int) (hc : c ≠ 0) (hb : Below w.heap.size w w') : RetN l w (.returned (.tuple #[.slice none 0 0, .int .i64 0, .int .i64 c])) w' := by
  refine ⟨hb, ?_⟩
  rw [h]
  exact ⟨c, hc, rfl⟩
theorem ret_n_some {l : List UInt8} {w w' : World} {xs : List Int} {k n : Nat} {A : Option Addr} {c : Nat} (h : getInts l = some (xs, k)) (hn : n = xs.length) (hr : w'.ownsRow w.heap.size 3 1 (.slice A n c) n (intC xs)) (hb : Below w.heap.size w w') : RetN l w (.returned (.tuple #[.slice A n c, .int .i64 k, .int .i64 0])) w' := by
  refine ⟨hb, ?_⟩
  rw [h]
  subst hn
  exact ⟨A, c, rfl, hr⟩
set_option maxRecDepth 100000 in
set_option maxHeartbeats 4000000 in
theorem listInt_any (s : ByteArray) (w : World) (hs : s.size ≤ 1099511627776) :
    Calls Tryz.prog 123 #[.string s, .func (.func 124) #[] #[]] w (RetN s.data.toList w) := by
  cases hv : getV s.data.toList with
  | none =>
    have HG := Lib.hid (get_none s w (by omega) hv)
    have HR : Hid (getInts s.data.toList = none) := Lib.hid (by unfold getInts getAll; rw [hv])
    clear hv
    go_enter Tryz.func123, Tryz.ntmps123
    go_wp2_with fail
    refine HG.out.mono ?_
    rintro e w' ⟨rfl, c, hc, rfl⟩
    have hc1 : (c == 0) = false := by simpa using hc
    have hc2 : (c != 0) = true := by simpa using hc
    go_wp2_with fail
    go_ret3
    exact ret_n_none HR.out c hc (Below.refl _ _)
  | some x =>
    obtain ⟨n, k⟩ := x
    have HG := Lib.hid (get_some s w (by omega) n k hv)
    have hle := getV_le hv
    rw [len_data] at hle
    have hn := getV_lt hv
    obtain ⟨k0, k1, k2⟩ := hle
    have HL : Hid (getInts s.data.toList = match getMany getInt n (s.data.toList.drop k) with
      | none => none
      | some (xs, m) => some (xs, k + m)) := Lib.hid (by unfold getInts getAll; rw [hv]; simp only []; cases getMany getInt n (List.drop k s.data.toList) <;> rfl)
    obtain ⟨i0, hi, hz0, hz1, hz2⟩ := info_parts infoN
    have HI := Lib.hid hi
    have HZ0 := Lib.hid hz0
    have HZ1 := Lib.hid hz1
    have HZ2 := Lib.hid hz2
    clear hi hz0 hz1 hz2 hv
    go_enter Tryz.func123, Tryz.ntmps123
    go_wp2_with fail
    refine HG.out.mono ?_
    rintro e w' ⟨rfl, rfl⟩
    go_wp2_with fail
    go_loopw [8, 10, 24] (fun a o i wr => ∃ (j p : Nat) (xs : List Int), i = .int .u64 j ∧ j ≤ n ∧ a = .int .i64 p ∧ p ≤ s.size ∧ j ≤ p ∧ xs.length = j ∧ wr.ownsRow w.heap.size 3 1 o j (intC xs) ∧ Below w.heap.size w wr ∧ w.heap.size ≤ wr.heap.size ∧
      getInts s.data.toList = (match getMany getInt (n - j) (s.data.toList.drop p) with
      | none => none
      | some (ys, m) => some (xs ++ ys, p + m))) (fun _ _ i _ => n - (intOf i).toNat)
    case atStart => exact ⟨0, k, [], rfl, by omega, rfl, k2, by omega, rfl, World.ownsRow_nil _ _ _ _, Below.refl _ _, Nat.le_refl _, by rw [HL.out]; simp⟩
    case round =>
      obtain ⟨j, p, xs, rfl, hj, rfl, hp, hjp, hxs, hown, hb, hge, hL⟩ := hrel
      have HO := Lib.hid hown
      have HB := Lib.hid hb
      have HX := Lib.hid hxs
      have HE := Lib.hid hL
      clear hown hb hxs hL
      by_cases hlt : j < n
      · have hj' : (j : Int) < (n : Int) := by omega
        have hsl : (s.extract p s.size).size = s.size - p := by simp
        have HD := Lib.hid (ext_end s p hp)
        have hmany : n - j = (n - (j + 1)) + 1 := by omega
        cases hg : getInt (s.data.toList.drop p) with
        | none =>
          have HG1 := Lib.hid (geti_none (s.extract p s.size) wr (by omega) (by rw [HD.out]; exact hg))
          have HR : Hid (getInts s.data.toList = none) := Lib.hid (by rw [HE.out, hmany, getMany, hg])
          clear hg hsl hmany
          go_wp2_with fail
          refine HG1.out.mono ?_
          rintro e w' ⟨rfl, c, hc, rfl⟩
          have hc1 : (c == 0) = false := by simpa using hc
          have hc2 : (c != 0) = true := by simpa using hc
          go_wp2_with fail
          go_ret3
          exact ret_n_none HR.out c hc HB.out
        | some x =>
          obtain ⟨x, q⟩ := x
          have HG1 := Lib.hid (geti_some (s.extract p s.size) wr (by omega) x q (by rw [HD.out]; exact hg))
          have hq := getInt_leW hg
          simp only [List.length_drop, len_data] at hq
          obtain ⟨q0, q1⟩ := hq
          have HR : Hid (getInts s.data.toList = (match getMany getInt (n - (j + 1)) (s.data.toList.drop (p + q)) with
            | none => none
            | some (ys, m) => some (xs ++ [x] ++ ys, p + q + m))) := Lib.hid (by
              rw [HE.out, hmany, getMany, hg]
              simp only [List.drop_drop]
              cases getMany getInt (n - (j + 1)) (s.data.toList.drop (p + q)) with
              | none => rfl
              | some y => obtain ⟨ys, m⟩ := y; simp [Nat.add_assoc])
          clear hg hsl hmany
          go_wp2_with fail
          refine HG1.out.mono ?_
          rintro e w' ⟨rfl, rfl⟩
          go_wp2_with (at_builtin; refine wpList_append_own _ rfl _ _ 68 rfl w.heap.size 3 i0 _ 1 8 Tryz.underlying68 HI.out HZ0.out HZ1.out HZ2.out rfl (by decide) _ _ _ rfl (HO.out.alloc _) ⟨wr.heap.size, 0, none⟩ 1 1 [.int .i64 x] rfl rfl (cell_new _ _ _ _ rfl) (by simp [Value.oneCell']) (by simp [maxLen]; omega) (by omega) (by simp; omega) ?_)
          intro v' w2 hown' hgrow _
          have HO2 := Lib.hid hown'
          have HG2 := Lib.hid hgrow
          clear hown' hgrow
          go_wp2_with fail
          go_roundw
          case rel =>
            refine ⟨j + 1, p + q, xs ++ [x], by go_num, by omega, by go_num, by omega, by omega, by simp [HX.out], ?_, below_grown (HB.out.alloc hge _) (by simp; omega) HG2.out (fun g hg => (HO.out.lt g hg).1), ?_, HR.out⟩
            · rw [intC_snoc]; exact HO2.out
            · have := HG2.out.size; simp at this; omega
          case measure => simp [intOf]; omega
      · have hjn : j = n := by omega
        have HR : Hid (getInts s.data.toList = some (xs, p)) := Lib.hid (by rw [HE.out, hjn, Nat.sub_self, getMany]; simp)
        obtain ⟨A, c, hv⟩ := ownsRow_form HO.out
        subst hv
        have hj' : ¬ (j : Int) < (n : Int) := by omega
        clear hjn
        go_wp2_with fail
        go_ret3
        exact ret_n_some HR.out HX.out.symm HO.out HB.out
theorem retN_none {P : Program} {f : FuncId} {args : Array Value} {l : List UInt8} {w : World} (h : Calls P f args w (RetN l w)) (hl : getInts l = none) :
    Calls P f args w fun e w' => (∃ c : Int, c ≠ 0 ∧ e = .returned (.tuple #[.slice none 0 0, .int .i64 0, .int .i64 c])) ∧ Below w.heap.size w w' :=
  h.mono fun _ _ ⟨hw, he⟩ => by rw [hl] at he; exact ⟨he, hw⟩
theorem retN_some {P : Program} {f : FuncId} {args : Array Value} {l : List UInt8} {w : World} {xs : List Int} {k : Nat} (h : Calls P f args w (RetN l w)) (hl : getInts l = some (xs, k)) :
    Calls P f args w fun e w' => (∃ A c, e = .returned (.tuple #[.slice A xs.length c, .int .i64 k, .int .i64 0]) ∧ w'.ownsRow w.heap.size 3 1 (.slice A xs.length c) xs.length (intC xs)) ∧ Below w.heap.size w w' :=
  h.mono fun _ _ ⟨hw, he⟩ => by rw [hl] at he; exact ⟨he, hw⟩
set_option maxRecDepth 100000 in
set_option maxHeartbeats 2000000 in
theorem getInts_any (s : ByteArray) (w : World) (hs : s.size ≤ 1099511627776) :
    Calls Tryz.prog 101 #[.string s] w (RetN s.data.toList w) := by
  have hL := listInt_any s w hs
  cases hl : getInts s.data.toList with
  | none =>
    have HL := Lib.hid (retN_none hL hl)
    have HR := Lib.hid hl
    clear hl hL
    go_enter Tryz.func101, Tryz.ntmps101
    go_wp2_with fail
    refine HL.out.mono ?_
    rintro e w' ⟨⟨c, hc, rfl⟩, hb⟩
    go_wp2_with fail
    go_ret3
    exact ret_n_none HR.out c hc hb
  | some x =>
    obtain ⟨xs, k⟩ := x
    have HL := Lib.hid (retN_some hL hl)
    have HR := Lib.hid hl
    clear hl hL
    go_enter Tryz.func101, Tryz.ntmps101
    go_wp2_with fail
    refine HL.out.mono ?_
    rintro e w' ⟨⟨A, c, rfl, hr⟩, hb⟩
    go_wp2_with fail
    go_ret3
    exact ret_n_some HR.out rfl hr hb
end Go.Proofs.YtoehakekjlebdaaGreatDoor
/- The contracts of the reference's Get, GetString. -/
namespace Go.Proofs.YtoehakekjlebdaaGreatDoor
open Go.RowKit

theorem unit_le (k : Nat) (hk : k ≤ 9) : 128 ^ k ≤ 9223372036854775808 := by
  have := Nat.pow_le_pow_right (n := 128) (by omega) hk
  omega
theorem ref_test' : ∀ (c : Fin 128) (k : Fin 10), decide (18446744073709551616 ≤ c.val * 128 ^ k.val) = (decide (k.val = 9) && decide (1 < c.val)) := by decide +kernel
theorem ref_test (c k : Nat) (hc : c < 128) (hk : k ≤ 9) : 18446744073709551616 ≤ c * 128 ^ k ↔ (k = 9 ∧ 1 < c) := by
  have := ref_test' ⟨c, hc⟩ ⟨k, by omega⟩
  rw [Bool.eq_iff_iff] at this
  simpa using this
theorem wrap_mul (c U : Nat) (h : c * U < 18446744073709551616) : IntKind.u64.wrap ((c : Int) * (U : Int)) = ((c * U : Nat) : Int) := by
  rw [← Int.natCast_mul, IntKind.wrap_u64]; omega
theorem wrap_sub (c U : Nat) (hc : 128 ≤ c) (h : (c - 128) * U < 18446744073709551616) : IntKind.u64.wrap (((c : Int) - 128) * (U : Int)) = (((c - 128) * U : Nat) : Int) := by
  rw [show ((c : Int) - 128) = ((c - 128 : Nat) : Int) from by omega]
  exact wrap_mul _ _ h
theorem wrap_add (a b : Nat) (h : a + b < 18446744073709551616) : IntKind.u64.wrap ((a : Int) + (b : Int)) = ((a + b : Nat) : Int) := by
  rw [← Int.natCast_add, IntKind.wrap_u64]; omega
set_option maxRecDepth 100000 in
set_option maxHeartbeats 1000000 in
theorem refGet_any (s : ByteArray) (w : World) (hs : s.size ≤ 70368744177664) :
    Calls Tryz.prog 115 #[.string s] w (RetV s.data.toList w) := by
  go_enter Tryz.func115, Tryz.ntmps115
  go_wp2_with fail
  go_loop [5, 6, 7] (fun n u i => ∃ (k a : Nat) (v z : Int), i = .int .i64 k ∧ k ≤ 10 ∧ k ≤ s.size ∧ n = .int .u64 v ∧ u = .int .u64 z ∧ (k ≤ 9 → v = a ∧ z = ((128 ^ k : Nat) : Int)) ∧ a < 128 ^ k ∧ getV s.data.toList = getVAt (10 - k) k a (s.data.toList.drop k)) (fun _ _ i => 10 - (intOf i).toNat)
  case atStart => exact ⟨0, 0, 0, 1, rfl, by omega, by omega, rfl, rfl, fun _ => ⟨rfl, rfl⟩, by omega, rfl⟩
  case round =>
    obtain ⟨k, a, v, z, rfl, hk, hks, rfl, rfl, hv, ha, hg⟩ := hrel
    have HG := Lib.hid hg
    clear hg
    by_cases hlt : k < s.size ∧ k < 10
    · obtain ⟨hl1, hl2⟩ := hlt
      obtain ⟨rfl, rfl⟩ := hv (by omega)
      have hc := byte_lt s[k]
      have hu := unit_le k (by omega)
      obtain ⟨U, hU⟩ : ∃ U, U = 128 ^ k := ⟨_, rfl⟩
      rw [← hU] at hu ha ⊢
      have HU := Lib.hid hU
      clear hU
      by_cases hb : 128 ≤ s[k].toNat
      · go_wp2_with fail
        go_round
        case rel =>
          have hpow : 128 ^ (k + 1) = U * 128 := by rw [HU.out]; exact Nat.pow_succ 128 k
          have hmul : (s[k].toNat - 128) * U ≤ 127 * U := Nat.mul_le_mul_right _ (by omega)
          refine ⟨k + 1, a + (s[k].toNat - 128) * U, _, _, by go_num, by omega, by omega, rfl, rfl, fun h9 => ⟨?_, ?_⟩, by omega, ?_⟩
          · have h8 : 128 ^ (k + 1) ≤ 128 ^ 9 := Nat.pow_le_pow_right (by omega) h9
            rw [wrap_sub _ U hb (by omega), wrap_add _ _ (by omega)]
          · have h8 : 128 ^ (k + 1) ≤ 128 ^ 9 := Nat.pow_le_pow_right (by omega) h9
            rw [show (U : Int) * 128 = (U : Int) * ((128 : Nat) : Int) from rfl, wrap_mul _ _ (by omega), hpow]
          · rw [HG.out, getVAt_at s k a hl1 (by omega), if_pos hb, HU.out]
        case measure => simp [intOf]; omega
      · have HT := Lib.hid (ref_test s[k].toNat k (by omega) (by omega))
        by_cases hq : k = 9 ∧ 1 < s[k].toNat
        · have hr : getV s.data.toList = none := by rw [HG.out, getVAt_at s k a hl1 (by omega), if_neg hb, if_pos (HT.out.2 hq)]
          have HR := Lib.hid hr
          obtain ⟨hk9, hc1⟩ := hq
          have h9 : ((k : Int) == 9) = true := by rw [beq_iff_eq]; omega
          have h1 : (1 : Int) < (s[k].toNat : Int) := by omega
          clear hr hk9
          go_wp2_with fail
          go_ret3
          exact ret_v_none HR.out _ (by decide)
        · have hlt2 := fun h => hq (HT.out.1 h)
          have hsp : (((k : Int) == 9) = false) ∨ (((k : Int) == 9) = true ∧ ¬ (1 : Int) < (s[k].toNat : Int)) := by
            by_cases h0 : k = 9
            · right; constructor
              · rw [beq_iff_eq]; omega
              · intro h; exact hq ⟨h0, by omega⟩
            · left; rw [beq_eq_false_iff_ne]; omega
          by_cases hz : s[k].toNat = 0 ∧ 0 < k
          · have hr : getV s.data.toList = none := by rw [HG.out, getVAt_at s k a hl1 (by omega), if_neg hb, if_neg hlt2, if_pos hz]
            have HR := Lib.hid hr
            have hz1 : ((s[k].toNat : Int) == 0) = true := by simp; exact hz.1
            have hz2 : (0 : Int) < (k : Int) := by omega
            have hz3 := hz.1
            clear hr hlt2 hz hq
            rcases hsp with h9 | ⟨h9, h1⟩
            all_goals
              go_wp2_with fail
              go_ret3
              exact ret_v_none HR.out _ (by decide)
          · have hr : getV s.data.toList = some (a + s[k].toNat * 128 ^ k, k + 1) := by rw [HG.out, getVAt_at s k a hl1 (by omega), if_neg hb, if_neg hlt2, if_neg hz]
            have HR := Lib.hid hr
            have hfit := step_fit a s[k].toNat k (by omega) (by omega) (by rw [← HU.out]; exact ha) hlt2
            rw [← HU.out] at hfit
            have HO : Hid (IntKind.u64.wrap ((a : Int) + IntKind.u64.wrap ((s[k].toNat : Int) * (U : Int))) = ((a + s[k].toNat * 128 ^ k : Nat) : Int)) := Lib.hid (by rw [wrap_mul _ _ (by omega), wrap_add _ _ hfit, HU.out])
            have hz1 : ((s[k].toNat : Int) == 0) = false ∨ (((s[k].toNat : Int) == 0) = true ∧ ¬ (0 : Int) < (k : Int)) := by
              by_cases h0 : s[k].toNat = 0
              · right; constructor
                · simp; exact h0
                · omega
              · left; simp; exact h0
            clear hr hlt2 hz hq
            rcases hsp with h9 | ⟨h9, h1⟩
            all_goals
              rcases hz1 with hz1 | ⟨hz1, hz2⟩
              all_goals
                go_wp2_with fail
                go_ret3
                exact ret_v_some HR.out (by first | exact HO.out | (rw [← HU.out]; simp)) (by go_num)
    · have hr : getV s.data.toList = none := by
        rw [HG.out]; exact getVAt_end s k a (by omega)
      have HR := Lib.hid hr
      clear hr
      have hsp : ((k : Int) < (s.size : Int) ∧ ¬ (k : Int) < 10) ∨ ¬ (k : Int) < (s.size : Int) := by omega
      clear hlt
      rcases hsp with ⟨h1, h2⟩ | h1
      · go_wp2_with fail
        go_ret3
        exact ret_v_none HR.out _ (by decide)
      · by_cases h3 : (s.size : Int) < 10
        · go_wp2_with fail
          go_ret3
          exact ret_v_none HR.out _ (by decide)
        · go_wp2_with fail
          go_ret3
          exact ret_v_none HR.out _ (by decide)
theorem rget_none (s : ByteArray) (w : World) (hs : s.size ≤ 70368744177664) (h : getV s.data.toList = none) :
    Calls Tryz.prog 115 #[.string s] w fun e w' => w = w' ∧ ∃ c : Int, c ≠ 0 ∧ e = .returned (.tuple #[.int .u64 0, .int .i64 0, .int .i64 c]) :=
  (refGet_any s w hs).mono fun _ _ ⟨hw, he⟩ => by rw [h] at he; exact ⟨hw, he⟩
theorem rget_some (s : ByteArray) (w : World) (hs : s.size ≤ 70368744177664) (n k : Nat) (h : getV s.data.toList = some (n, k)) :
    Calls Tryz.prog 115 #[.string s] w fun e w' => w = w' ∧ e = .returned (.tuple #[.int .u64 n, .int .i64 k, .int .i64 0]) :=
  (refGet_any s w hs).mono fun _ _ ⟨hw, he⟩ => by rw [h] at he; exact ⟨hw, he⟩
set_option maxRecDepth 100000 in
set_option maxHeartbeats 2000000 in
theorem refGetStr_any (s : ByteArray) (w : World) (hs : s.size ≤ 70368744177664) :
    Calls Tryz.prog 86 #[.string s] w (RetS s.data.toList w) := by
  cases hv : getV s.data.toList with
  | none =>
    have HG := Lib.hid (rget_none s w hs hv)
    have HR : Hid (getStr s.data.toList = none) := Lib.hid (by unfold getStr; rw [hv])
    clear hv
    go_enter Tryz.func86, Tryz.ntmps86
    go_wp2_with fail
    refine HG.out.mono ?_
    rintro e w' ⟨rfl, c, hc, rfl⟩
    have hc1 : (c == 0) = false := by simpa using hc
    have hc2 : (c != 0) = true := by simpa using hc
    go_wp2_with fail
    go_ret3
    exact ret_s_none HR.out c hc
  | some x =>
    obtain ⟨n, k⟩ := x
    have HG := Lib.hid (rget_some s w hs n k hv)
    have hle := getV_le hv
    rw [len_data] at hle
    have hn := getV_lt hv
    obtain ⟨k0, k1, k2⟩ := hle
    by_cases hq : s.size - k < n
    · have HR : Hid (getStr s.data.toList = none) := Lib.hid (by unfold getStr; rw [hv]; simp only []; rw [len_data, if_pos hq])
      clear hv
      have hq' : (s.size : Int) - (k : Int) < (n : Int) := by omega
      go_enter Tryz.func86, Tryz.ntmps86
      go_wp2_with fail
      refine HG.out.mono ?_
      rintro e w' ⟨rfl, rfl⟩
      go_wp2_with fail
      go_ret3
      exact ret_s_none HR.out 9 (by decide)
    · have HR : Hid (getStr s.data.toList = some ((s.data.toList.drop k).take n, k + n)) := Lib.hid (by unfold getStr; rw [hv]; simp only []; rw [len_data, if_neg hq])
      clear hv
      have hq' : ¬ (s.size : Int) - (k : Int) < (n : Int) := by omega
      have hn2 : n ≤ 70368744177664 := by omega
      have HX := Lib.hid (ext_mid s k (k + n))
      go_enter Tryz.func86, Tryz.ntmps86
      go_wp2_with fail
      refine HG.out.mono ?_
      rintro e w' ⟨rfl, rfl⟩
      go_wp2_with fail
      go_ret3
      exact ret_s_some HR.out (by rw [HX.out, show k + n - k = n from by omega]) (by go_num)
theorem rgets_none (s : ByteArray) (w : World) (hs : s.size ≤ 70368744177664) (h : getStr s.data.toList = none) :
    Calls Tryz.prog 86 #[.string s] w fun e w' => w = w' ∧ ∃ c : Int, c ≠ 0 ∧ e = .returned (.tuple #[.string ⟨#[]⟩, .int .i64 0, .int .i64 c]) :=
  (refGetStr_any s w hs).mono fun _ _ ⟨hw, he⟩ => by rw [h] at he; exact ⟨hw, he⟩
theorem rgets_some (s : ByteArray) (w : World) (hs : s.size ≤ 70368744177664) (x : List UInt8) (k : Nat) (h : getStr s.data.toList = some (x, k)) :
    Calls Tryz.prog 86 #[.string s] w fun e w' => w = w' ∧ e = .returned (.tuple #[.string ⟨x.toArray⟩, .int .i64 k, .int .i64 0]) :=
  (refGetStr_any s w hs).mono fun _ _ ⟨hw, he⟩ => by rw [h] at he; exact ⟨hw, he⟩
end Go.Proofs.YtoehakekjlebdaaGreatDoor
/- The contract of wire.GetList: what is read lies in a row of the call's own. -/
namespace Go.Proofs.YtoehakekjlebdaaGreatDoor
open Go.RowKit

def RetT (l : List UInt8) (w : World) (e : Ending) (w' : World) : Prop := Below w.heap.size w w' ∧ match getList l with
  | some (xs, k) => ∃ A c, e = .returned (.tuple #[.slice A xs.length c, .int .i64 k, .int .i64 0]) ∧ w'.ownsRow w.heap.size 9 1 (.slice A xs.length c) xs.length (strC xs)
  | none => ∃ c : Int, c ≠ 0 ∧ e = .returned (.tuple #[.slice none 0 0, .int .i64 0, .int .i64 c])
theorem ret_t_none {l : List UInt8} {w w' : World} (h : getList l = none) (c : Int) (hc : c ≠ 0) (hb : Below w.heap.size w w') : RetT l w (.returned (.tuple #[.slice none 0 0, .int .i64 0, .int .i64 c])) w' := by
  refine ⟨hb, ?_⟩
  rw [h]
  exact ⟨c, hc, rfl⟩
theorem ret_t_some {l : List UInt8} {w w' : World} {xs : List (List UInt8)} {k n : Nat} {A : Option Addr} {c : Nat} (h : getList l = some (xs, k)) (hn : n = xs.length) (hr : w'.ownsRow w.heap.size 9 1 (.slice A n c) n (strC xs)) (hb : Below w.heap.size w w') : RetT l w (.returned (.tuple #[.slice A n c, .int .i64 k, .int .i64 0])) w' := by
  refine ⟨hb, ?_⟩
  rw [h]
  subst hn
  exact ⟨A, c, rfl, hr⟩
set_option maxRecDepth 100000 in
set_option maxHeartbeats 4000000 in
theorem listText_any (s : ByteArray) (w : World) (hs : s.size ≤ 1099511627776) :
    Calls Tryz.prog 131 #[.string s, .func (.func 103) #[] #[]] w (RetT s.data.toList w) := by
  cases hv : getV s.data.toList with
  | none =>
    have HG := Lib.hid (get_none s w (by omega) hv)
    have HR : Hid (getList s.data.toList = none) := Lib.hid (by unfold getList getAll; rw [hv])
    clear hv
    go_enter Tryz.func131, Tryz.ntmps131
    go_wp2_with fail
    refine HG.out.mono ?_
    rintro e w' ⟨rfl, c, hc, rfl⟩
    have hc1 : (c == 0) = false := by simpa using hc
    have hc2 : (c != 0) = true := by simpa using hc
    go_wp2_with fail
    go_ret3
    exact ret_t_none HR.out c hc (Below.refl _ _)
  | some x =>
    obtain ⟨n, k⟩ := x
    have HG := Lib.hid (get_some s w (by omega) n k hv)
    have hle := getV_le hv
    rw [len_data] at hle
    have hn := getV_lt hv
    obtain ⟨k0, k1, k2⟩ := hle
    have HL : Hid (getList s.data.toList = match getMany getStr n (s.data.toList.drop k) with
      | none => none
      | some (xs, m) => some (xs, k + m)) := Lib.hid (by unfold getList getAll; rw [hv]; simp only []; cases getMany getStr n (List.drop k s.data.toList) <;> rfl)
    obtain ⟨i0, hi, hz0, hz1, hz2⟩ := info_parts infoS
    have HI := Lib.hid hi
    have HZ0 := Lib.hid hz0
    have HZ1 := Lib.hid hz1
    have HZ2 := Lib.hid hz2
    clear hi hz0 hz1 hz2 hv
    go_enter Tryz.func131, Tryz.ntmps131
    go_wp2_with fail
    refine HG.out.mono ?_
    rintro e w' ⟨rfl, rfl⟩
    go_wp2_with fail
    go_loopw [8, 10, 24] (fun a o i wr => ∃ (j p : Nat) (xs : List (List UInt8)), i = .int .u64 j ∧ j ≤ n ∧ a = .int .i64 p ∧ p ≤ s.size ∧ j ≤ p ∧ xs.length = j ∧ wr.ownsRow w.heap.size 9 1 o j (strC xs) ∧ Below w.heap.size w wr ∧ w.heap.size ≤ wr.heap.size ∧
      getList s.data.toList = (match getMany getStr (n - j) (s.data.toList.drop p) with
      | none => none
      | some (ys, m) => some (xs ++ ys, p + m))) (fun _ _ i _ => n - (intOf i).toNat)
    case atStart => exact ⟨0, k, [], rfl, by omega, rfl, k2, by omega, rfl, World.ownsRow_nil _ _ _ _, Below.refl _ _, Nat.le_refl _, by rw [HL.out]; simp⟩
    case round =>
      obtain ⟨j, p, xs, rfl, hj, rfl, hp, hjp, hxs, hown, hb, hge, hL⟩ := hrel
      have HO := Lib.hid hown
      have HB := Lib.hid hb
      have HX := Lib.hid hxs
      have HE := Lib.hid hL
      clear hown hb hxs hL
      by_cases hlt : j < n
      · have hj' : (j : Int) < (n : Int) := by omega
        have hsl : (s.extract p s.size).size = s.size - p := by simp
        have HD := Lib.hid (ext_end s p hp)
        have hmany : n - j = (n - (j + 1)) + 1 := by omega
        cases hg : getStr (s.data.toList.drop p) with
        | none =>
          have HG1 := Lib.hid (gets_none (s.extract p s.size) wr (by omega) (by rw [HD.out]; exact hg))
          have HR : Hid (getList s.data.toList = none) := Lib.hid (by rw [HE.out, hmany, getMany, hg])
          clear hg hsl hmany
          go_wp2_with fail
          refine HG1.out.mono ?_
          rintro e w' ⟨rfl, c, hc, rfl⟩
          have hc1 : (c == 0) = false := by simpa using hc
          have hc2 : (c != 0) = true := by simpa using hc
          go_wp2_with fail
          go_ret3
          exact ret_t_none HR.out c hc HB.out
        | some x =>
          obtain ⟨x, q⟩ := x
          have HG1 := Lib.hid (gets_some (s.extract p s.size) wr (by omega) x q (by rw [HD.out]; exact hg))
          have hq := getStr_le hg
          simp only [List.length_drop, len_data] at hq
          obtain ⟨q0, q1, q2⟩ := hq
          have HR : Hid (getList s.data.toList = (match getMany getStr (n - (j + 1)) (s.data.toList.drop (p + q)) with
            | none => none
            | some (ys, m) => some (xs ++ [x] ++ ys, p + q + m))) := Lib.hid (by
              rw [HE.out, hmany, getMany, hg]
              simp only [List.drop_drop]
              cases getMany getStr (n - (j + 1)) (s.data.toList.drop (p + q)) with
              | none => rfl
              | some y => obtain ⟨ys, m⟩ := y; simp [Nat.add_assoc])
          clear hg hsl hmany
          go_wp2_with fail
          refine HG1.out.mono ?_
          rintro e w' ⟨rfl, rfl⟩
          go_wp2_with (at_builtin; refine wpList_append_own _ rfl _ _ 31 rfl w.heap.size 9 i0 _ 1 16 Tryz.underlying31 HI.out HZ0.out HZ1.out HZ2.out rfl (by decide) _ _ _ rfl (HO.out.alloc _) ⟨wr.heap.size, 0, none⟩ 1 1 [.string ⟨x.toArray⟩] rfl rfl (cell_new _ _ _ _ rfl) (by simp [Value.oneCell']) (by simp [maxLen]; omega) (by omega) (by simp; omega) ?_)
          intro v' w2 hown' hgrow _
          have HO2 := Lib.hid hown'
          have HG2 := Lib.hid hgrow
          clear hown' hgrow
          go_wp2_with fail
          go_roundw
          case rel =>
            refine ⟨j + 1, p + q, xs ++ [x], by go_num, by omega, by go_num, by omega, by omega, by simp [HX.out], ?_, below_grown (HB.out.alloc hge _) (by simp; omega) HG2.out (fun g hg => (HO.out.lt g hg).1), ?_, HR.out⟩
            · rw [strC_snoc]; exact HO2.out
            · have := HG2.out.size; simp at this; omega
          case measure => simp [intOf]; omega
      · have hjn : j = n := by omega
        have HR : Hid (getList s.data.toList = some (xs, p)) := Lib.hid (by rw [HE.out, hjn, Nat.sub_self, getMany]; simp)
        obtain ⟨A, c, hv⟩ := ownsRow_form HO.out
        subst hv
        have hj' : ¬ (j : Int) < (n : Int) := by omega
        clear hjn
        go_wp2_with fail
        go_ret3
        exact ret_t_some HR.out HX.out.symm HO.out HB.out
theorem retT_none {P : Program} {f : FuncId} {args : Array Value} {l : List UInt8} {w : World} (h : Calls P f args w (RetT l w)) (hl : getList l = none) :
    Calls P f args w fun e w' => (∃ c : Int, c ≠ 0 ∧ e = .returned (.tuple #[.slice none 0 0, .int .i64 0, .int .i64 c])) ∧ Below w.heap.size w w' :=
  h.mono fun _ _ ⟨hw, he⟩ => by rw [hl] at he; exact ⟨he, hw⟩
theorem retT_some {P : Program} {f : FuncId} {args : Array Value} {l : List UInt8} {w : World} {xs : List (List UInt8)} {k : Nat} (h : Calls P f args w (RetT l w)) (hl : getList l = some (xs, k)) :
    Calls P f args w fun e w' => (∃ A c, e = .returned (.tuple #[.slice A xs.length c, .int .i64 k, .int .i64 0]) ∧ w'.ownsRow w.heap.size 9 1 (.slice A xs.length c) xs.length (strC xs)) ∧ Below w.heap.size w w' :=
  h.mono fun _ _ ⟨hw, he⟩ => by rw [hl] at he; exact ⟨he, hw⟩
set_option maxRecDepth 100000 in
set_option maxHeartbeats 2000000 in
theorem getTexts_any (s : ByteArray) (w : World) (hs : s.size ≤ 1099511627776) :
    Calls Tryz.prog 114 #[.string s] w (RetT s.data.toList w) := by
  have hL := listText_any s w hs
  cases hl : getList s.data.toList with
  | none =>
    have HL := Lib.hid (retT_none hL hl)
    have HR := Lib.hid hl
    clear hl hL
    go_enter Tryz.func114, Tryz.ntmps114
    go_wp2_with fail
    refine HL.out.mono ?_
    rintro e w' ⟨⟨c, hc, rfl⟩, hb⟩
    go_wp2_with fail
    go_ret3
    exact ret_t_none HR.out c hc hb
  | some x =>
    obtain ⟨xs, k⟩ := x
    have HL := Lib.hid (retT_some hL hl)
    have HR := Lib.hid hl
    clear hl hL
    go_enter Tryz.func114, Tryz.ntmps114
    go_wp2_with fail
    refine HL.out.mono ?_
    rintro e w' ⟨⟨A, c, rfl, hr⟩, hb⟩
    go_wp2_with fail
    go_ret3
    exact ret_t_some HR.out rfl hr hb
end Go.Proofs.YtoehakekjlebdaaGreatDoor
/- The contracts of the reference's integer, GetList, GetInts. -/
namespace Go.Proofs.YtoehakekjlebdaaGreatDoor
open Go.RowKit

theorem getInt_none {s : List UInt8} (h : getV s = none) : getInt s = none := by unfold getInt; rw [h]; rfl
theorem getInt_some {s : List UInt8} {x q : Nat} (h : getV s = some (x, q)) : getInt s = some (unzig x, q) := by unfold getInt; rw [h]; rfl
def sliceLen : Value → Nat
  | .slice _ n _ => n
  | _ => 0
set_option maxHeartbeats 1000000 in
theorem refInteger_any (n : Nat) (w : World) (hn : n < 18446744073709551616) : Calls Tryz.prog 116 #[.int .u64 n] w fun e w' => e = .returned (.int .i64 (unzig n)) ∧ w = w' := by
  by_cases h : n % 2 = 0
  · have H : Hid (unzig n = ((n / 2 : Nat) : Int)) := Lib.hid (by unfold unzig; rw [if_pos h])
    have h1 : ((n : Int) % 2 == 0) = true := by rw [beq_iff_eq]; omega
    go_enter Tryz.func116, Tryz.ntmps116
    go_wp2_with fail
    go_ret
    exact ⟨ret_int (by rw [H.out]; omega), rfl⟩
  · have H : Hid (unzig n = -((n / 2 : Nat) : Int) - 1) := Lib.hid (by unfold unzig; rw [if_neg h])
    have h1 : ((n : Int) % 2 == 0) = false := by rw [beq_eq_false_iff_ne]; omega
    go_enter Tryz.func116, Tryz.ntmps116
    go_wp2_with fail
    go_ret
    exact ⟨ret_int (by rw [H.out]; omega), rfl⟩
set_option maxRecDepth 100000 in
set_option maxHeartbeats 4000000 in
theorem refGetList_any (s : ByteArray) (w : World) (hs : s.size ≤ 1099511627776) :
    Calls Tryz.prog 88 #[.string s] w (RetT s.data.toList w) := by
  cases hv : getV s.data.toList with
  | none =>
    have HG := Lib.hid (rget_none s w (by omega) hv)
    have HR : Hid (getList s.data.toList = none) := Lib.hid (by unfold getList getAll; rw [hv])
    clear hv
    go_enter Tryz.func88, Tryz.ntmps88
    go_wp2_with fail
    refine HG.out.mono ?_
    rintro e w' ⟨rfl, c, hc, rfl⟩
    have hc1 : (c == 0) = false := by simpa using hc
    have hc2 : (c != 0) = true := by simpa using hc
    go_wp2_with fail
    go_ret3
    exact ret_t_none HR.out c hc (Below.refl _ _)
  | some x =>
    obtain ⟨n, k⟩ := x
    have HG := Lib.hid (rget_some s w (by omega) n k hv)
    have hle := getV_le hv
    rw [len_data] at hle
    have hn := getV_lt hv
    obtain ⟨k0, k1, k2⟩ := hle
    have HL : Hid (getList s.data.toList = match getMany getStr n (s.data.toList.drop k) with
      | none => none
      | some (xs, m) => some (xs, k + m)) := Lib.hid (by unfold getList getAll; rw [hv]; simp only []; cases getMany getStr n (List.drop k s.data.toList) <;> rfl)
    obtain ⟨i0, hi, hz0, hz1, hz2⟩ := info_parts infoS
    have HI := Lib.hid hi
    have HZ0 := Lib.hid hz0
    have HZ1 := Lib.hid hz1
    have HZ2 := Lib.hid hz2
    clear hi hz0 hz1 hz2 hv
    go_enter Tryz.func88, Tryz.ntmps88
    go_wp2_with fail
    refine HG.out.mono ?_
    rintro e w' ⟨rfl, rfl⟩
    go_wp2_with fail
    go_loopw [6, 8] (fun a o wr => ∃ (j p : Nat) (xs : List (List UInt8)) (A : Option Addr) (c : Nat), o = .slice A j c ∧ j ≤ n ∧ a = .int .i64 p ∧ p ≤ s.size ∧ j ≤ p ∧ xs.length = j ∧ wr.ownsRow w.heap.size 9 1 o j (strC xs) ∧ Below w.heap.size w wr ∧ w.heap.size ≤ wr.heap.size ∧
      getList s.data.toList = (match getMany getStr (n - j) (s.data.toList.drop p) with
      | none => none
      | some (ys, m) => some (xs ++ ys, p + m))) (fun _ o _ => n - sliceLen o)
    case atStart => exact ⟨0, k, [], none, 0, rfl, by omega, rfl, k2, by omega, rfl, World.ownsRow_nil _ _ _ _, Below.refl _ _, Nat.le_refl _, by rw [HL.out]; simp⟩
    case round =>
      obtain ⟨j, p, xs, A, c, rfl, hj, rfl, hp, hjp, hxs, hown, hb, hge, hL⟩ := hrel
      have HO := Lib.hid hown
      have HB := Lib.hid hb
      have HX := Lib.hid hxs
      have HE := Lib.hid hL
      clear hown hb hxs hL
      by_cases hlt : j < n
      · have hj' : (j : Int) < (n : Int) := by omega
        have hsl : (s.extract p s.size).size = s.size - p := by simp
        have HD := Lib.hid (ext_end s p hp)
        have hmany : n - j = (n - (j + 1)) + 1 := by omega
        cases hg : getStr (s.data.toList.drop p) with
        | none =>
          have HG1 := Lib.hid (rgets_none (s.extract p s.size) wr (by omega) (by rw [HD.out]; exact hg))
          have HR : Hid (getList s.data.toList = none) := Lib.hid (by rw [HE.out, hmany, getMany, hg])
          clear hg hsl hmany
          go_wp2_with fail
          refine HG1.out.mono ?_
          rintro e w' ⟨rfl, c', hc, rfl⟩
          have hc1 : (c' == 0) = false := by simpa using hc
          have hc2 : (c' != 0) = true := by simpa using hc
          go_wp2_with fail
          go_ret3
          exact ret_t_none HR.out c' hc HB.out
        | some x =>
          obtain ⟨x, q⟩ := x
          have HG1 := Lib.hid (rgets_some (s.extract p s.size) wr (by omega) x q (by rw [HD.out]; exact hg))
          have hq := getStr_le hg
          simp only [List.length_drop, len_data] at hq
          obtain ⟨q0, q1, q2⟩ := hq
          have HR : Hid (getList s.data.toList = (match getMany getStr (n - (j + 1)) (s.data.toList.drop (p + q)) with
            | none => none
            | some (ys, m) => some (xs ++ [x] ++ ys, p + q + m))) := Lib.hid (by
              rw [HE.out, hmany, getMany, hg]
              simp only [List.drop_drop]
              cases getMany getStr (n - (j + 1)) (s.data.toList.drop (p + q)) with
              | none => rfl
              | some y => obtain ⟨ys, m⟩ := y; simp [Nat.add_assoc])
          clear hg hsl hmany
          go_wp2_with fail
          refine HG1.out.mono ?_
          rintro e w' ⟨rfl, rfl⟩
          go_wp2_with (at_builtin; refine wpList_append_own _ rfl _ _ 31 rfl w.heap.size 9 i0 _ 1 16 Tryz.underlying31 HI.out HZ0.out HZ1.out HZ2.out rfl (by decide) _ _ _ rfl (HO.out.alloc _) ⟨wr.heap.size, 0, none⟩ 1 1 [.string ⟨x.toArray⟩] rfl rfl (cell_new _ _ _ _ rfl) (by simp [Value.oneCell']) (by simp [maxLen]; omega) (by omega) (by simp; omega) ?_)
          intro v' w2 hown' hgrow _
          obtain ⟨A', c', rfl⟩ := ownsRow_form hown'
          have HO2 := Lib.hid hown'
          have HG2 := Lib.hid hgrow
          clear hown' hgrow
          go_wp2_with fail
          go_roundw
          case rel =>
            refine ⟨j + 1, p + q, xs ++ [x], A', c', rfl, by omega, by go_num, by omega, by omega, by simp [HX.out], ?_, below_grown (HB.out.alloc hge _) (by simp; omega) HG2.out (fun g hg => (HO.out.lt g hg).1), ?_, HR.out⟩
            · rw [strC_snoc]; exact HO2.out
            · have := HG2.out.size; simp at this; omega
          case measure => simp [sliceLen]; omega
      · have hjn : j = n := by omega
        have HR : Hid (getList s.data.toList = some (xs, p)) := Lib.hid (by rw [HE.out, hjn, Nat.sub_self, getMany]; simp)
        have hj' : ¬ (j : Int) < (n : Int) := by omega
        clear hjn
        go_wp2_with fail
        go_ret3
        exact ret_t_some HR.out HX.out.symm HO.out HB.out
set_option maxRecDepth 100000 in
set_option maxHeartbeats 4000000 in
theorem refGetInts_any (s : ByteArray) (w : World) (hs : s.size ≤ 1099511627776) :
    Calls Tryz.prog 85 #[.string s] w (RetN s.data.toList w) := by
  cases hv : getV s.data.toList with
  | none =>
    have HG := Lib.hid (rget_none s w (by omega) hv)
    have HR : Hid (getInts s.data.toList = none) := Lib.hid (by unfold getInts getAll; rw [hv])
    clear hv
    go_enter Tryz.func85, Tryz.ntmps85
    go_wp2_with fail
    refine HG.out.mono ?_
    rintro e w' ⟨rfl, c, hc, rfl⟩
    have hc1 : (c == 0) = false := by simpa using hc
    have hc2 : (c != 0) = true := by simpa using hc
    go_wp2_with fail
    go_ret3
    exact ret_n_none HR.out c hc (Below.refl _ _)
  | some x =>
    obtain ⟨n, k⟩ := x
    have HG := Lib.hid (rget_some s w (by omega) n k hv)
    have hle := getV_le hv
    rw [len_data] at hle
    have hn := getV_lt hv
    obtain ⟨k0, k1, k2⟩ := hle
    have HL : Hid (getInts s.data.toList = match getMany getInt n (s.data.toList.drop k) with
      | none => none
      | some (xs, m) => some (xs, k + m)) := Lib.hid (by unfold getInts getAll; rw [hv]; simp only []; cases getMany getInt n (List.drop k s.data.toList) <;> rfl)
    obtain ⟨i0, hi, hz0, hz1, hz2⟩ := info_parts infoN
    have HI := Lib.hid hi
    have HZ0 := Lib.hid hz0
    have HZ1 := Lib.hid hz1
    have HZ2 := Lib.hid hz2
    clear hi hz0 hz1 hz2 hv
    go_enter Tryz.func85, Tryz.ntmps85
    go_wp2_with fail
    refine HG.out.mono ?_
    rintro e w' ⟨rfl, rfl⟩
    go_wp2_with fail
    go_loopw [6, 8] (fun a o wr => ∃ (j p : Nat) (xs : List Int) (A : Option Addr) (c : Nat), o = .slice A j c ∧ j ≤ n ∧ a = .int .i64 p ∧ p ≤ s.size ∧ j ≤ p ∧ xs.length = j ∧ wr.ownsRow w.heap.size 3 1 o j (intC xs) ∧ Below w.heap.size w wr ∧ w.heap.size ≤ wr.heap.size ∧
      getInts s.data.toList = (match getMany getInt (n - j) (s.data.toList.drop p) with
      | none => none
      | some (ys, m) => some (xs ++ ys, p + m))) (fun _ o _ => n - sliceLen o)
    case atStart => exact ⟨0, k, [], none, 0, rfl, by omega, rfl, k2, by omega, rfl, World.ownsRow_nil _ _ _ _, Below.refl _ _, Nat.le_refl _, by rw [HL.out]; simp⟩
    case round =>
      obtain ⟨j, p, xs, A, c, rfl, hj, rfl, hp, hjp, hxs, hown, hb, hge, hL⟩ := hrel
      have HO := Lib.hid hown
      have HB := Lib.hid hb
      have HX := Lib.hid hxs
      have HE := Lib.hid hL
      clear hown hb hxs hL
      by_cases hlt : j < n
      · have hj' : (j : Int) < (n : Int) := by omega
        have hsl : (s.extract p s.size).size = s.size - p := by simp
        have HD := Lib.hid (ext_end s p hp)
        have hmany : n - j = (n - (j + 1)) + 1 := by omega
        cases hg : getV (s.data.toList.drop p) with
        | none =>
          have HG1 := Lib.hid (rget_none (s.extract p s.size) wr (by omega) (by rw [HD.out]; exact hg))
          have HR : Hid (getInts s.data.toList = none) := Lib.hid (by rw [HE.out, hmany, getMany, getInt_none hg])
          clear hg hsl hmany
          go_wp2_with fail
          refine HG1.out.mono ?_
          rintro e w' ⟨rfl, c', hc, rfl⟩
          have hc1 : (c' == 0) = false := by simpa using hc
          have hc2 : (c' != 0) = true := by simpa using hc
          go_wp2_with fail
          go_ret3
          exact ret_n_none HR.out c' hc HB.out
        | some x =>
          obtain ⟨x, q⟩ := x
          have HG1 := Lib.hid (rget_some (s.extract p s.size) wr (by omega) x q (by rw [HD.out]; exact hg))
          have hq := getV_le hg
          simp only [List.length_drop, len_data] at hq
          obtain ⟨q0, q2, q1⟩ := hq
          have HI2 := Lib.hid (refInteger_any x wr (getV_lt hg))
          have HR : Hid (getInts s.data.toList = (match getMany getInt (n - (j + 1)) (s.data.toList.drop (p + q)) with
            | none => none
            | some (ys, m) => some (xs ++ [unzig x] ++ ys, p + q + m))) := Lib.hid (by
              rw [HE.out, hmany, getMany, getInt_some hg]
              simp only [List.drop_drop]
              cases getMany getInt (n - (j + 1)) (s.data.toList.drop (p + q)) with
              | none => rfl
              | some y => obtain ⟨ys, m⟩ := y; simp [Nat.add_assoc])
          clear hg hsl hmany
          go_wp2_with fail
          refine HG1.out.mono ?_
          rintro e w' ⟨rfl, rfl⟩
          go_wp2_with fail
          refine HI2.out.mono ?_
          rintro e w' ⟨rfl, rfl⟩
          go_wp2_with (at_builtin; refine wpList_append_own _ rfl _ _ 68 rfl w.heap.size 3 i0 _ 1 8 Tryz.underlying68 HI.out HZ0.out HZ1.out HZ2.out rfl (by decide) _ _ _ rfl (HO.out.alloc _) ⟨wr.heap.size, 0, none⟩ 1 1 [.int .i64 (unzig x)] rfl rfl (cell_new _ _ _ _ rfl) (by simp [Value.oneCell']) (by simp [maxLen]; omega) (by omega) (by simp; omega) ?_)
          intro v' w2 hown' hgrow _
          obtain ⟨A', c', rfl⟩ := ownsRow_form hown'
          have HO2 := Lib.hid hown'
          have HG2 := Lib.hid hgrow
          clear hown' hgrow
          go_wp2_with fail
          go_roundw
          case rel =>
            refine ⟨j + 1, p + q, xs ++ [unzig x], A', c', rfl, by omega, by go_num, by omega, by omega, by simp [HX.out], ?_, below_grown (HB.out.alloc hge _) (by simp; omega) HG2.out (fun g hg => (HO.out.lt g hg).1), ?_, HR.out⟩
            · rw [intC_snoc]; exact HO2.out
            · have := HG2.out.size; simp at this; omega
          case measure => simp [sliceLen]; omega
      · have hjn : j = n := by omega
        have HR : Hid (getInts s.data.toList = some (xs, p)) := Lib.hid (by rw [HE.out, hjn, Nat.sub_self, getMany]; simp)
        have hj' : ¬ (j : Int) < (n : Int) := by omega
        clear hjn
        go_wp2_with fail
        go_ret3
        exact ret_n_some HR.out HX.out.symm HO.out HB.out
end Go.Proofs.YtoehakekjlebdaaGreatDoor
