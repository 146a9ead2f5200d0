/- The contracts of package set: Members, Count, choose, Subsets. -/
import Derived.Test.YtlklmpcfhnbhgaaDoorCpE
import Derived.RangeFuncNested
import Derived.RangeFuncBound
import Derived.RangeFuncCalls
import Derived.RangeFuncLeaves
import Derived.Shelf.Abstract
import Derived.Shelf.RegionOpen
import Derived.OwnWalkIn
import Derived.TacticsInMore
import Derived.LoopNIn
import Derived.LoopIn
import Derived.Laws.BitsAllLaws
namespace Go.Proofs.YtlklmpcfhnbhgaaDoor
open Go.RowKit Go.Shelf

/-- the table holds numbers -/
def Tb (w : World) : Prop := 0 < w.heap.size ∧ ∀ j, j < 32 → ∃ v : Nat, v < 256 ∧ w.cell? ⟨0, j, none⟩ = some (.int .u8 (v : Int))
theorem ret_nat256 {E : Int} (h0 : 0 ≤ E) (h1 : E < 256) : ∃ v : Nat, v < 256 ∧ Ending.returned (.int .i64 E) = Ending.returned (.int .i64 (v : Int)) := ⟨E.toNat, by omega, by rw [Int.toNat_of_nonneg h0]⟩
theorem Tb.below {w w' : World} (h : Tb w) (hb : Below w.heap.size w w') : Tb w' :=
  ⟨Nat.lt_of_lt_of_le h.1 hb.size, fun j hj => by obtain ⟨v, hv, hc⟩ := h.2 j hj; exact ⟨v, hv, (hb.cell (p := ⟨0, j, none⟩) h.1).trans hc⟩⟩
set_option maxRecDepth 100000 in
set_option maxHeartbeats 2000000 in
theorem tz_any (s : Nat) (w : World) (hs : s < 65536) (ht : Tb w) : Calls Tryd.prog 40 #[.int .u16 (s : Int)] w (fun e w' => (∃ v : Nat, v < 256 ∧ e = .returned (.int .i64 (v : Int))) ∧ w = w') := by
  by_cases h0 : s = 0
  · subst h0
    clear ht
    go_enter Tryd.func40, Tryd.ntmps40
    go_wp2_with fail
    go_ret
    exact ⟨⟨16, by decide, rfl⟩, rfl⟩
  · have e1 : ((s : Int) == 0) = false := by rw [beq_eq_false_iff_ne]; omega
    obtain ⟨v, hv, hc⟩ := ht.2 (bits .and .u16 (s : Int) (IntKind.u16.wrap (-(s : Int))) % 4294967296 * 125613361 % 4294967296 / 134217728).toNat (by omega)
    clear ht
    go_enter Tryd.func40, Tryd.ntmps40
    go_wp2_with fail
    go_ret
    exact ⟨⟨v, hv, rfl⟩, rfl⟩
set_option maxRecDepth 100000 in
set_option maxHeartbeats 2000000 in
theorem ones_any (s : Nat) (w : World) (hs : s < 65536) : Calls Tryd.prog 38 #[.int .u16 (s : Int)] w (fun e w' => (∃ v : Nat, v < 256 ∧ e = .returned (.int .i64 (v : Int))) ∧ Below w.heap.size w w') := by
  go_enter Tryd.func38, Tryd.ntmps38
  go_wp2_with fail
  generalize hS : ByteArray.mk _ = S
  have hz : S.size = 256 := by rw [← hS]; rfl
  have x0 : (0 : Int) ≤ (s : Int) / 256 := by omega
  have x1 : (s : Int) / 256 < 256 := by omega
  obtain ⟨u, hu, he⟩ : ∃ u : Nat, u < 256 ∧ bits .and .u16 (s : Int) 255 = (u : Int)  := ⟨s &&& 255, Nat.lt_of_le_of_lt Nat.and_le_right (by decide), u16_and_nat s 255 hs (by decide)⟩
  have y0 : (0 : Int) ≤ (u : Int) := by omega
  have y1 : (u : Int) < 256 := by omega
  clear hS
  go_quiet (fail)
  go_wp2_with fail
  go_ret
  refine ⟨ret_nat256 (E := _) ?_ ?_, bdN (Below.refl _ _) _⟩
  · exact Int.emod_nonneg _ (by decide)
  · exact Int.emod_lt_of_pos _ (by decide)
theorem clr_dvd (j v : Nat) (h : 2 ^ j ∣ v) (h0 : v ≠ 0) : 2 ^ (j + 1) ∣ (v &&& (v - 1)) := by
  apply Nat.dvd_of_mod_eq_zero
  rw [Nat.and_mod_two_pow]
  obtain ⟨q, rfl⟩ := h
  have hp : 0 < 2 ^ j := Nat.two_pow_pos j
  have e2 : 2 ^ (j + 1) = 2 ^ j * 2 := Nat.pow_succ ..
  obtain ⟨k, hk⟩ : ∃ k, q = 2 * k ∨ q = 2 * k + 1 := ⟨q / 2, by omega⟩
  rcases hk with rfl | rfl
  · have : 2 ^ j * (2 * k) % 2 ^ (j + 1) = 0 := by
      rw [e2, ← Nat.mul_assoc]; exact Nat.mul_mod_right _ _
    rw [this, Nat.zero_and]
  · have h1 : 2 ^ j * (2 * k + 1) % 2 ^ (j + 1) = 2 ^ j := by
      rw [Nat.mul_add, ← Nat.mul_assoc, Nat.mul_one, ← e2, Nat.mul_add_mod]
      exact Nat.mod_eq_of_lt (by omega)
    have h2 : (2 ^ j * (2 * k + 1) - 1) % 2 ^ (j + 1) = 2 ^ j - 1 := by
      have : 2 ^ j * (2 * k + 1) - 1 = 2 ^ (j + 1) * k + (2 ^ j - 1) := by
        rw [Nat.mul_add, ← Nat.mul_assoc, Nat.mul_one, ← e2]; omega
      rw [this, Nat.mul_add_mod]
      exact Nat.mod_eq_of_lt (by omega)
    rw [h1, h2, Nat.and_two_pow_sub_one_eq_mod, Nat.mod_self]
theorem dvd_small (j v : Nat) (h : 2 ^ j ∣ v) (h0 : v ≠ 0) (hv : v < 65536) : j < 16 := by
  apply Nat.lt_of_not_le
  intro hj
  have := Nat.le_of_dvd (by omega) h
  have h2 : 2 ^ 16 ≤ 2 ^ j := Nat.pow_le_pow_right (by decide) hj
  omega
def RetMem (w : World) (e : Ending) (w' : World) : Prop :=
  ∃ (A : Option Addr) (c : Nat) (l : List Nat), e = .returned (.slice A l.length c) ∧ Rd w' 1 A l.length (l.flatMap nat1) ∧ l.length ≤ 16 ∧ (∀ x ∈ l, x < 256) ∧ Below w.heap.size w w'
set_option maxRecDepth 100000 in
set_option maxHeartbeats 2000000 in
theorem members_any (s : Nat) (w : World) (hs : s < 65536) (ht : Tb w) : Calls Tryd.prog 39 #[.int .u16 (s : Int)] w (RetMem w) := by
  obtain ⟨iI, hiI, hzI0, hzI1, hzI2⟩ := info_parts infoI
  have HII := Lib.hid hiI
  have HZI0 := Lib.hid hzI0
  have HZI1 := Lib.hid hzI1
  have HZI2 := Lib.hid hzI2
  have HT := Lib.hid ht
  clear hiI hzI0 hzI1 hzI2 ht
  go_enter Tryd.func39, Tryd.ntmps39
  go_wp2_with fail
  go_loopw [0, 3] (fun s o wr => ∃ (v : Nat) (q : Value) (l : List Nat), s = .int .u16 (v : Int) ∧ q = o ∧ v < 65536 ∧ 2 ^ l.length ∣ v ∧ l.length ≤ 16 ∧ (∀ x ∈ l, x < 256) ∧ wr.ownsRow w.heap.size 3 1 q l.length (l.flatMap nat1) ∧ Below w.heap.size w wr) (fun s _ _ => (intOf s).toNat)
  case atStart => exact ⟨s, _, [], rfl, rfl, hs, by simp, by simp, by simp, World.ownsRow_nil _ _ _ _, Below.refl _ _⟩
  case round =>
    obtain ⟨v, o, l, rfl, rfl, hv, hd, hll, hlx, how, hbl⟩ := hrel
    have HLx := Lib.hid hlx
    have HO := Lib.hid how
    have HB := Lib.hid hbl
    have HD := Lib.hid hd
    clear hlx how hbl hd
    by_cases h0 : v = 0
    · subst h0
      have how := HO.out
      obtain ⟨a, c', rfl⟩ := ownsRow_form how
      clear how
      go_wp2_with fail
      go_ret
      exact ⟨a, c', l, rfl, Rd.own HO.out, hll, HLx.out, HB.out⟩
    · have e1 : ((v : Int) != 0) = true := by rw [bne_iff_ne]; omega
      have v0 : (0 : Int) ≤ (v : Int) - 1 := by omega
      have v1 : (v : Int) - 1 < 65536 := by omega
      have hl16 : l.length ≤ 15 := by have := dvd_small _ v HD.out h0 hv; omega
      have hz := HB.out.size
      have HDv := Lib.hid (clr_dvd _ v HD.out h0)
      have HAnd : Hid (bits .and .u16 (v : Int) ((v : Int) - 1) = ((v &&& (v - 1) : Nat) : Int)) := Lib.hid (by
        have := u16_and_nat v (v - 1) hv (by omega)
        rwa [show ((v - 1 : Nat) : Int) = (v : Int) - 1 from by omega] at this)
      have hlt : v &&& (v - 1) ≤ v - 1 := Nat.and_le_right
      obtain ⟨v2, hv2⟩ : ∃ v2, v2 = v &&& (v - 1) := ⟨_, rfl⟩
      rw [← hv2] at HDv HAnd hlt
      clear hv2
      go_wp2_with fail
      refine (tz_any v wr hv (HT.out.below HB.out)).mono ?_
      rintro e w2 ⟨⟨t, ht, rfl⟩, rfl⟩
      go_wp2_with (at_builtin; refine wpList_append_lies _ rfl _ _ _ rfl w.heap.size 3 iI _ 1 8 Tryd.underlying29 HII.out HZI0.out HZI1.out HZI2.out rfl (by decide) _ _ _ rfl (HO.out.alloc _) ⟨wr.heap.size, 0, none⟩ 1 1 [.int .i64 (t : Int)] rfl rfl (cell_new _ _ _ _ rfl) (by simp [Value.oneCell']) (by decide) (by simp [maxLen]; omega) (by omega) (by simp; omega) (wr.heap.size + 1) (by simp) ?_)
      intro g cap w4 hown hgrow hat hlt4
      have HN : Hid (w4.ownsRow w.heap.size 3 1 (.slice (some ⟨g, 0, none⟩) (l.length + 1) cap) (l ++ [t]).length ((l ++ [t]).flatMap nat1)) := Lib.hid (by
        rw [List.length_append, List.flatMap_append]; exact hown)
      have HBn : Hid (Below w.heap.size w w4) := Lib.hid (below_grown (bon HB.out (below_new wr _)) (by simp; omega) hgrow (fun i hi => (HO.out.lt i hi).1))
      have HLn : Hid (∀ x ∈ l ++ [t], x < 256) := Lib.hid (fun x hx => by
        rcases List.mem_append.1 hx with h | h
        · exact HLx.out x h
        · rw [List.mem_singleton] at h; omega)
      clear hown hgrow hat
      go_wp2_with fail
      go_roundw
      case rel => rw [HAnd.out]; exact ⟨v2, _, l ++ [t], rfl, rfl, by omega, by rw [List.length_append]; exact HDv.out, by rw [List.length_append]; simp only [List.length_singleton]; omega, HLn.out, by rw [List.length_append] at *; exact HN.out, HBn.out⟩
      case measure => rw [HAnd.out]; simp [intOf]; omega
end Go.Proofs.YtlklmpcfhnbhgaaDoor
