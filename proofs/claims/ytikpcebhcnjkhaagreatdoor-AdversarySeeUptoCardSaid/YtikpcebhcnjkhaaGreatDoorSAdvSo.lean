/- Contains at strings. -/
import Derived.Test.YtikpcebhcnjkhaaGreatDoorSPl
import Derived.Test.YtikpcebhcnjkhaaGreatDoorSA6
namespace Go.Proofs.YtikpcebhcnjkhaaGreatDoor
open Go.RowKit
theorem strs_at {w : World} {A : Option Addr} {vs : List (List UInt8)} (h : Rd w 1 A vs.length (strC vs)) {k : Nat} (hk : k < vs.length) : ∃ b o, A = some ⟨b, o, none⟩ ∧ b < w.heap.size ∧ w.cell? ⟨b, o + k, none⟩ = some (.string ⟨vs[k].toArray⟩) := by
 obtain ⟨b, o, e, hb, hc⟩ := h.cells (by rw [strC_len]; omega)
 exact ⟨b, o, e, hb, hc k _ (by simp [strC, hk])⟩
theorem mem_take_one {α : Type} (l : List α) (k : Nat) (h : k < l.length) (n : α) (h1 : n ∉ l.take k) (h2 : n ≠ l[k]) : n ∉ l.take (k + 1) := by
 rw [List.take_succ_eq_append_getElem h, List.mem_append, List.mem_singleton]
 rintro (h3 | h3)
 · exact h1 h3
 · exact h2 h3
set_option maxRecDepth 100000 in
set_option maxHeartbeats 2000000 in
theorem idxStr_any (A : Option Addr) (c : Nat) (vs : List (List UInt8)) (v : List UInt8) (w : World) (h : Rd w 1 A vs.length (strC vs)) (hn : vs.length ≤ 1099511627776) :
    Calls Tryz.prog 70 #[.slice A vs.length c, .string ⟨v.toArray⟩] w fun e w' => (∃ i : Int, e = .returned (.int .i64 i) ∧ decide (0 ≤ i) = decide (v ∈ vs)) ∧ w' = w := by
 have HR := hD h
 clear h
 go_enter Tryz.func70, Tryz.ntmps70
 go_wp2_with fail
 go_loopw [8] (fun i wr => ∃ k : Nat, i = .int .i64 k ∧ k ≤ vs.length ∧ v ∉ vs.take k ∧ wr = w) (fun i _ => vs.length - (intOf i).toNat)
 case atStart => exact ⟨0, rfl, by omega, by simp, rfl⟩
 case round =>
  obtain ⟨k, rfl, hk, hm, rfl⟩ := hrel
  have HM := hD hm
  clear hm
  by_cases hlt : k < vs.length
  · have i0' : (0 : Int) ≤ (k : Int) := by omega
    have i1 : (k : Int) < (vs.length : Int) := by omega
    obtain ⟨b, off, rfl, hg, c0⟩ := strs_at HR.out hlt
    obtain ⟨y, hy⟩ : ∃ y, y = vs[k] := ⟨_, rfl⟩
    rw [← hy] at c0
    by_cases hq : v = y
    · have q1 : (v == y) = true := by simpa using hq
      have HF : Hid (decide ((0 : Int) ≤ (k : Int)) = decide (v ∈ vs)) := hD (by
       have h1 : v ∈ vs := by rw [hq, hy]; exact List.getElem_mem hlt
       simp [h1])
      clear hq hy
      go_wp2_with fail
      go_ret
      exact ⟨⟨_, rfl, HF.out⟩, by first | rfl | trivial⟩
    · have q1 : (v == y) = false := by simpa using hq
      have HF : Hid (v ∉ vs.take (k + 1)) := hD (mem_take_one vs k hlt v HM.out (by rw [← hy]; exact hq))
      clear hq hy
      go_wp2_with fail
      go_roundw
      case rel => exact ⟨k + 1, by go_num, by omega, HF.out, by first | rfl | trivial⟩
      case measure => simp [intOf]; omega
  · obtain rfl : k = vs.length := by omega
    have HF : Hid (decide ((0 : Int) ≤ -1) = decide (v ∈ vs)) := hD (by
     have h1 := HM.out
     rw [List.take_length] at h1
     simp [h1])
    go_wp2_with fail
    go_ret
    exact ⟨⟨_, rfl, HF.out⟩, by first | rfl | trivial⟩
set_option maxRecDepth 100000 in
set_option maxHeartbeats 2000000 in
theorem hasStr_any (A : Option Addr) (c : Nat) (vs : List (List UInt8)) (v : List UInt8) (w : World) (h : Rd w 1 A vs.length (strC vs)) (hn : vs.length ≤ 1099511627776) :
    Calls Tryz.prog 42 #[.slice A vs.length c, .string ⟨v.toArray⟩] w (Same (.bool (decide (v ∈ vs))) w) := by
 have HC := hD (idxStr_any A c vs v w h hn)
 clear h hn
 go_enter Tryz.func42, Tryz.ntmps42
 go_wp2_with fail
 refine HC.out.mono ?_
 rintro e w2 ⟨⟨i, rfl, hi⟩, hw⟩
 subst hw
 go_wp2_with fail
 go_ret
 exact ⟨ret_bool (by first | exact hi | (rw [← hi]; done) | (rw [← hi]; simp)), rfl⟩
end Go.Proofs.YtikpcebhcnjkhaaGreatDoor
