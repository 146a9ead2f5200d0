/- The contracts of the reference's readers: take, number. -/
import Derived.Test.YthmoplkleopahaaDoorRefG
namespace Go.Proofs.YthmoplkleopahaaDoor
open Go.RowKit

theorem not_empty' (s : ByteArray) (h0 : 0 < s.size) : s.toList.isEmpty = false := by
  rw [Lib.toList_data]
  have hl := len_data s
  cases hq : s.data.toList with
  | nil => simp [hq] at hl; omega
  | cons => rfl
theorem list_two (s : ByteArray) (h : 1 < s.size) : ∃ r, s.data.toList = s[0] :: s[1] :: r := ⟨_, by rw [← List.drop_zero (l := s.data.toList), drop_at s 0 (by omega), drop_at s 1 h]⟩
theorem list_one (s : ByteArray) (h : s.size = 1) : s.data.toList = [s[0]] := by
  rw [← List.drop_zero (l := s.data.toList), drop_at s 0 (by omega), List.drop_eq_nil_of_le (by simp; omega)]
theorem takeR_low (s : ByteArray) (m : Nat) (h : 0 < s.size) (hc : s[0].toNat < 128) : takeR s.data.toList m = if m < s[0].toNat then (0, 0) else (s[0].toNat, 1) := by
  rw [← List.drop_zero (l := s.data.toList), drop_at s 0 h]
  simp only [takeR]
  rw [if_pos hc]
theorem takeR_short (s : ByteArray) (m : Nat) (h : s.size = 1) (hc : ¬ s[0].toNat < 128) : takeR s.data.toList m = (0, 0) := by
  rw [list_one s h]
  simp only [takeR]
  rw [if_neg hc]
theorem takeR_high (s : ByteArray) (m : Nat) (h : 1 < s.size) (hc : ¬ s[0].toNat < 128) : takeR s.data.toList m = if s[1].toNat = 0 ∨ 128 ≤ s[1].toNat then (0, 0) else if m < s[0].toNat - 128 + 128 * s[1].toNat then (0, 0) else (s[0].toNat - 128 + 128 * s[1].toNat, 2) := by
  obtain ⟨r, hr⟩ := list_two s h
  rw [hr]
  simp only [takeR]
  rw [if_neg hc]
def RetTake (p : Nat × Nat) (w : World) (e : Ending) (w' : World) : Prop := w = w' ∧ e = .returned (.tuple #[.int .i64 p.1, .int .i64 p.2])
theorem ret_tk {p : Nat × Nat} {w : World} {a b : Nat} (h : p = (a, b)) (x y : Int) (hx : x = (a : Int)) (hy : y = (b : Int)) : RetTake p w (.returned (.tuple #[.int .i64 x, .int .i64 y])) w := by
  subst h hx hy; exact ⟨rfl, rfl⟩
set_option maxRecDepth 100000 in
set_option maxHeartbeats 2000000 in
theorem take_any (s : ByteArray) (most : Nat) (hm : most < 16384) (w : World) (hs : s.size ≤ 70368744177664) :
    Calls Tryd.prog 52 #[.string s, .int .i64 most] w (RetTake (takeR s.data.toList most) w) := by
  by_cases h0 : s.size = 0
  · have hY : takeR s.data.toList most = (0, 0) := by
      have : s.data.toList = [] := List.eq_nil_of_length_eq_zero (by simpa using h0)
      rw [this]; rfl
    have he : s = ⟨#[]⟩ := by
      apply ByteArray.ext
      exact Array.eq_empty_of_size_eq_zero (by simpa using h0)
    have hq0 : s.toList.isEmpty = true := by rw [Lib.toList_data, he]; rfl
    have HY := Lib.hid hY
    clear hY h0 he
    go_enter Tryd.func52, Tryd.ntmps52
    go_wp2_with fail
    go_ret2
    exact ret_tk HY.out _ _ rfl rfl
  · have hp : 0 < s.size := by omega
    have hq0 : s.toList.isEmpty = false := not_empty' s hp
    have hc := byte_lt s[0]
    by_cases hlow : s[0].toNat < 128
    · have HY := Lib.hid (takeR_low s most hp hlow)
      by_cases hq : most < s[0].toNat
      · have HZ := Lib.hid (HY.out.trans (if_pos hq))
        clear HY
        go_enter Tryd.func52, Tryd.ntmps52
        go_wp2_with fail
        go_ret2
        exact ret_tk HZ.out _ _ rfl rfl
      · have HZ := Lib.hid (HY.out.trans (if_neg hq))
        clear HY
        go_enter Tryd.func52, Tryd.ntmps52
        go_wp2_with fail
        go_ret2
        exact ret_tk HZ.out _ _ (by go_num) rfl
    · by_cases h1 : s.size = 1
      · have HZ := Lib.hid (takeR_short s most h1 hlow)
        go_enter Tryd.func52, Tryd.ntmps52
        go_wp2_with fail
        go_ret2
        exact ret_tk HZ.out _ _ rfl rfl
      · have hp1 : 1 < s.size := by omega
        have hd := byte_lt s[1]
        have HY := Lib.hid (takeR_high s most hp1 hlow)
        by_cases hz : s[1].toNat = 0
        · have HZ := Lib.hid (HY.out.trans (if_pos (.inl hz)))
          have hz1 : ((s[1].toNat : Int) == 0) = true := by simp; exact hz
          clear HY
          go_enter Tryd.func52, Tryd.ntmps52
          go_wp2_with fail
          go_ret2
          exact ret_tk HZ.out _ _ rfl rfl
        · have hz1 : ((s[1].toNat : Int) == 0) = false := by simp; exact hz
          by_cases hb : 128 ≤ s[1].toNat
          · have HZ := Lib.hid (HY.out.trans (if_pos (.inr hb)))
            clear HY
            go_enter Tryd.func52, Tryd.ntmps52
            go_wp2_with fail
            go_ret2
            exact ret_tk HZ.out _ _ rfl rfl
          · have HY2 := Lib.hid (HY.out.trans (if_neg (by omega)))
            clear HY
            by_cases hq : most < s[0].toNat - 128 + 128 * s[1].toNat
            · have HZ := Lib.hid (HY2.out.trans (if_pos hq))
              clear HY2
              have hq1 : (most : Int) < (s[0].toNat : Int) - 128 + 128 * (s[1].toNat : Int) := by omega
              go_enter Tryd.func52, Tryd.ntmps52
              go_wp2_with fail
              go_ret2
              exact ret_tk HZ.out _ _ rfl rfl
            · have HZ := Lib.hid (HY2.out.trans (if_neg hq))
              clear HY2
              have hq1 : ¬ (most : Int) < (s[0].toNat : Int) - 128 + 128 * (s[1].toNat : Int) := by omega
              have hq2 : ((s[0].toNat - 128 + 128 * s[1].toNat : Nat) : Int) = (s[0].toNat : Int) - 128 + 128 * (s[1].toNat : Int) := by omega
              go_enter Tryd.func52, Tryd.ntmps52
              go_wp2_with fail
              go_ret2
              exact ret_tk HZ.out _ _ (by omega) rfl

/-! number -/
theorem isDg_iff (c : UInt8) : isDg c = true ↔ 48 ≤ c.toNat ∧ c.toNat ≤ 57 := by simp [isDg]
theorem numR_bad (l : List UInt8) (k : Nat) (h : k < l.length) (hd : ¬ isDg l[k] = true) : numR l = -1 := by
  unfold numR
  rw [if_neg]
  rintro ⟨_, h2, _⟩
  exact hd (List.all_eq_true.1 h2 _ (List.getElem_mem h))
theorem numR_long (l : List UInt8) (h : 7 < l.length) : numR l = -1 := by
  unfold numR
  rw [if_neg]
  rintro ⟨h1, _⟩
  omega
theorem numR_nil : numR [] = -1 := by
  unfold numR
  rw [if_neg]
  rintro ⟨_, _, h3, _⟩
  exact h3 rfl
theorem numR_end (l : List UInt8) (h : l.length ≤ 7) (ha : l.all isDg = true) (hn : l ≠ []) : numR l = if Lib.decDigits (valD l) = l then (valD l : Int) else -1 := by
  unfold numR
  by_cases hq : Lib.decDigits (valD l) = l
  · rw [if_pos hq, if_pos ⟨h, ha, hn, hq⟩]
  · rw [if_neg hq, if_neg (fun x => hq x.2.2.2)]
theorem fold_lt (l : List UInt8) : ∀ a : Nat, l.all isDg = true → l.foldl (fun a c => 10 * a + (c.toNat - 48)) a < (a + 1) * 10 ^ l.length := by
  induction l with
  | nil => intro a _; simp
  | cons c t ih =>
    intro a h
    simp only [List.all_cons, Bool.and_eq_true] at h
    have h3 := (isDg_iff c).1 h.1
    have h1 := ih (10 * a + (c.toNat - 48)) h.2
    have h2 : (10 * a + (c.toNat - 48) + 1) * 10 ^ t.length ≤ (10 * (a + 1)) * 10 ^ t.length := Nat.mul_le_mul_right _ (by omega)
    rw [List.foldl_cons, List.length_cons, Nat.pow_succ, Nat.mul_comm (10 ^ t.length) 10, ← Nat.mul_assoc, Nat.mul_comm (a + 1) 10]
    omega
theorem valD_lt (l : List UInt8) (h : l.all isDg = true) : valD l < 10 ^ l.length := by
  have := fold_lt l 0 h
  simpa [valD] using this
theorem take_snoc (s : ByteArray) (k : Nat) (h : k < s.size) : s.data.toList.take (k + 1) = s.data.toList.take k ++ [s[k]] := by
  have := List.take_succ_eq_append_getElem (l := s.data.toList) (i := k) (by simpa using h)
  exact this
set_option maxRecDepth 100000 in
set_option maxHeartbeats 2000000 in
theorem number_any (s : ByteArray) (w : World) (hs : s.size ≤ 70368744177664) :
    Calls Tryd.prog 38 #[.string s] w (RetErr (numR s.data.toList) w) := by
  go_enter Tryd.func38, Tryd.ntmps38
  go_wp2_with fail
  go_loop [3, 4] (fun n i => ∃ (k v : Nat), i = .int .i64 k ∧ k ≤ s.size ∧ n = .int .i64 v ∧ v = valD (s.data.toList.take k) ∧ k ≤ 7 ∧ (s.data.toList.take k).all isDg = true ∧ v < 10000000) (fun _ i => s.size - (intOf i).toNat)
  case atStart => exact ⟨0, 0, rfl, by omega, rfl, by simp [valD], by omega, by simp, by omega⟩
  case round =>
    obtain ⟨k, v, rfl, hk, rfl, hv, h7, ha, hvl⟩ := hrel
    have HV := Lib.hid hv
    have HA := Lib.hid ha
    clear hv ha
    by_cases hlt : k < s.size
    · have hc := byte_lt s[k]
      have hkl : k < s.data.toList.length := by simpa using hlt
      have hge : s.data.toList[k] = s[k] := by simp; rfl
      have HBad : Hid (¬ isDg s[k] = true → numR s.data.toList = -1) := Lib.hid (fun h => numR_bad _ k hkl (by rw [hge]; exact h))
      have HLong : Hid (7 < s.size → numR s.data.toList = -1) := Lib.hid (fun h => numR_long _ (by simpa using h))
      clear hge
      by_cases h48 : s[k].toNat < 48
      · have HY := Lib.hid (HBad.out (fun h => by have := (isDg_iff _).1 h; omega))
        go_wp2_with fail
        go_ret
        exact ret_er HY.out (Below.refl _ _)
      · by_cases h57 : 57 < s[k].toNat
        · have HY := Lib.hid (HBad.out (fun h => by have := (isDg_iff _).1 h; omega))
          go_wp2_with fail
          go_ret
          exact ret_er HY.out (Below.refl _ _)
        · by_cases h6 : 6 < k
          · have HY := Lib.hid (HLong.out (by omega))
            go_wp2_with fail
            go_ret
            exact ret_er HY.out (Below.refl _ _)
          · have HS := Lib.hid (take_snoc s k hlt)
            have HD : Hid (isDg s[k] = true) := Lib.hid ((isDg_iff _).2 ⟨by omega, by omega⟩)
            have HAll : Hid ((s.data.toList.take (k + 1)).all isDg = true) := Lib.hid (by rw [HS.out, List.all_append, HA.out]; simp [HD.out])
            have HVal : Hid (10 * v + (s[k].toNat - 48) = valD (s.data.toList.take (k + 1))) := Lib.hid (by rw [HS.out, valD_snoc, HV.out])
            have hlt7 : 10 * v + (s[k].toNat - 48) < 10000000 := by
              have h1 := valD_lt _ HAll.out
              rw [← HVal.out, List.length_take, len_data] at h1
              have h2 : 10 ^ (min (k + 1) s.size) ≤ 10 ^ 7 := Nat.pow_le_pow_right (by omega) (by omega)
              omega
            go_wp2_with fail
            go_round
            case rel => exact ⟨k + 1, 10 * v + (s[k].toNat - 48), by go_num, by omega, by go_num, HVal.out, by omega, HAll.out, hlt7⟩
            case measure => simp [intOf]; omega
    · have hks : k = s.size := by omega
      subst hks
      have HV2 : Hid (v = valD s.data.toList) := Lib.hid (by rw [HV.out, List.take_of_length_le (by simp)])
      have HA2 : Hid (s.data.toList.all isDg = true) := Lib.hid (by have := HA.out; rwa [List.take_of_length_le (by simp)] at this)
      clear HV HA
      by_cases h0 : s.size = 0
      · have hnil : s.data.toList = [] := List.eq_nil_of_length_eq_zero (by simpa using h0)
        have HY : Hid (numR s.data.toList = -1) := Lib.hid (by rw [hnil]; exact numR_nil)
        have he : s = ⟨#[]⟩ := by
          apply ByteArray.ext
          exact Array.eq_empty_of_size_eq_zero (by simpa using h0)
        have hq0 : s.toList.isEmpty = true := by rw [Lib.toList_data, hnil]; rfl
        clear hnil h0 HV2 HA2 he
        go_wp2_with fail
        go_ret
        exact ret_er HY.out (Below.refl _ _)
      · have hq0 : s.toList.isEmpty = false := not_empty' s (by omega)
        have HY := Lib.hid (numR_end s.data.toList (by simpa using h7) HA2.out (by intro h; have := congrArg List.length h; rw [len_data] at this; exact h0 this))
        have HD := Lib.hid (digits_any (v : Int) (by omega) (by omega) w)
        have HI : Hid (Lib.itoa (v : Int) = Lib.decDigits v) := Lib.hid (by first | rfl | simp [Lib.itoa])
        rw [HI.out] at HD
        by_cases hq : Lib.decDigits v = s.data.toList
        · have HZ : Hid (numR s.data.toList = v) := Lib.hid (by rw [HY.out, ← HV2.out, if_pos hq])
          have hq1 : (s.data.toList == s.toList) = true := by rw [Lib.toList_data]; simp
          rw [hq] at HD
          go_wp2_with fail
          refine HD.out.mono ?_
          rintro e w1 ⟨rfl, b1⟩
          go_wp2_with fail
          go_ret
          exact ret_er HZ.out b1
        · have HZ : Hid (numR s.data.toList = -1) := Lib.hid (by rw [HY.out, ← HV2.out, if_neg hq])
          have hq1 : (Lib.decDigits v == s.toList) = false := by rw [Lib.toList_data]; simpa using hq
          have hq3 : (Lib.decDigits v != s.toList) = true := by rw [Lib.toList_data]; simpa using hq
          go_wp2_with fail
          refine HD.out.mono ?_
          rintro e w1 ⟨rfl, b1⟩
          go_wp2_with fail
          go_ret
          exact ret_er HZ.out b1
end Go.Proofs.YthmoplkleopahaaDoor
