/- The law on fields. -/
import Derived.Test.YtdjpnncehlmehaaDoorT
namespace Go.Proofs.YtdjpnncehlmehaaDoor
open Go.RowKit

theorem bdN {B : Nat} {a w : World} (h : Below B a w) (n : Nat) : Below B a (w.drewN n) := h.trans ⟨rfl, rfl, rfl, Nat.le_refl _, fun _ _ => rfl⟩
theorem joinF_take (s : ByteArray) (k : Nat) : (joinF ((fields s.data.toList).take k)).length ≤ 1 + 4 * s.size := by
  have h := fields_tot s.data.toList
  have h2 : ∀ (ls : List (List UInt8)) (k : Nat), tot (ls.take k) ≤ tot ls ∧ (ls.take k).length ≤ ls.length := by
    intro ls k
    refine ⟨?_, by simp; omega⟩
    induction ls generalizing k with
    | nil => simp
    | cons x r ih =>
      cases k with
      | zero => simp [tot]
      | succ k =>
        have := ih k
        simp only [tot, List.take_succ_cons, List.map_cons, List.sum_cons] at this ⊢
        omega
  have h3 := h2 (fields s.data.toList) k
  rw [joinF_len]
  rw [len_data] at h
  omega
set_option maxRecDepth 100000 in
set_option maxHeartbeats 2000000 in
theorem lawFields (s : ByteArray) (w : World) (hs : s.size ≤ maxLen) (hsh : w.ShapedOpen Tryd.prog) :
    Calls Tryd.prog 8 #[.string s] w fun e w' => e = .returned (.bool true) ∧ Below w.heap.size w w' := by
  have HA := Lib.hid (fun (w : World) (h : w.ShapedOpen Tryd.prog) => awake_any w h)
  have HSH := Lib.hid hsh
  unfold maxLen at hs
  clear hsh
  by_cases hc : 2000 < s.size
  · go_enter Tryd.func8, Tryd.ntmps8
    go_wp2_with fail
    refine (HA.out _ HSH.out).mono ?_
    rintro e w1 ⟨rfl, b1⟩
    have B1 := Lib.hid b1
    clear b1
    go_wp2_with fail
    refine (HA.out _ (shaped_below HSH.out B1.out)).mono ?_
    rintro e w2 ⟨rfl, b2⟩
    go_wp2_with fail
    go_ret
    exact ⟨rfl, B1.out.trans (b2.mono B1.out.size)⟩
  · have HL := Lib.hid (fun w => lexFields_any s w (by omega))
    have HR := Lib.hid (fun w => refFields_any s w (by omega))
    go_enter Tryd.func8, Tryd.ntmps8
    go_wp2_with fail
    refine (HA.out _ HSH.out).mono ?_
    rintro e w1 ⟨rfl, b1⟩
    have B1 := Lib.hid b1
    clear b1
    go_wp2_with fail
    refine (HL.out _).mono ?_
    rintro e w2 ⟨A, c, rfl, r2, b2⟩
    have R2 := Lib.hid r2
    have B2 := Lib.hid (B1.out.trans (b2.mono B1.out.size))
    clear r2 b2
    have HT := Lib.hid (joinF_take s)
    have HN := Lib.hid (fields_tot s.data.toList).2
    go_wp2_with fail
    go_loop [4, 19] (fun o i => ∃ k : Nat, i = .int .i64 k ∧ k ≤ (fields s.data.toList).length ∧ o = .string ⟨(joinF ((fields s.data.toList).take k)).toArray⟩) (fun _ i => (fields s.data.toList).length - (intOf i).toNat)
    case atStart => exact ⟨0, rfl, by omega, rfl⟩
    case round =>
      obtain ⟨k, rfl, hk, rfl⟩ := hrel
      have hn := HN.out
      rw [len_data] at hn
      by_cases hlt : k < (fields s.data.toList).length
      · obtain ⟨g, o, rfl, hg, hcc⟩ := R2.out.cells (by simp [strC]; omega)
        have ca : w2.cell? ⟨g, o + k, none⟩ = some (.string ⟨((fields s.data.toList)[k]).toArray⟩) := hcc k _ (by simp [strC, hlt])
        have i1 : (k : Int) < ((fields s.data.toList).length : Int) := by omega
        have hj1 := HT.out k
        have hj2 := HT.out (k + 1)
        rw [List.take_succ_eq_append_getElem hlt, joinF_snoc] at hj2
        simp only [List.length_append, List.length_cons, List.length_nil] at hj2
        have HK : Hid (joinF ((fields s.data.toList).take (k + 1)) = joinF ((fields s.data.toList).take k) ++ ((fields s.data.toList)[k] ++ [32, 9, 10])) := Lib.hid (by rw [List.take_succ_eq_append_getElem hlt, joinF_snoc])
        clear hcc
        go_wp2_with fail
        go_round
        case rel =>
          refine ⟨k + 1, by go_num, by omega, ?_⟩
          rw [HK.out, str_snoc, str_snoc]
        case measure => simp [intOf]; omega
      · have HK : Hid ((fields s.data.toList).take k = fields s.data.toList) := Lib.hid (List.take_of_length_le (by omega))
        have hj1 := HT.out k
        rw [HK.out] at hj1
        rw [HK.out]
        have hz : (ByteArray.mk (joinF (fields s.data.toList)).toArray).size ≤ 1000000 := by
          show (joinF (fields s.data.toList)).length ≤ 1000000
          omega
        have HF := Lib.hid (fun w => lexFields_any ⟨(joinF (fields s.data.toList)).toArray⟩ w hz)
        simp only [fields_join] at HF
        clear hz
        go_wp2_with fail
        refine (HR.out _).mono ?_
        rintro e w3 ⟨A3, c3, rfl, r3, b3⟩
        have R3 := Lib.hid r3
        have R2' := Lib.hid (R2.out.below b3)
        have B3 := Lib.hid (B2.out.trans (b3.mono B2.out.size))
        clear r3 b3
        go_wp2_with fail
        refine (strings_any A A3 c c3 _ _ _ R2'.out R3.out (by simp [maxLen]; omega) (by simp [maxLen]; omega)).mono ?_
        rintro e w4 ⟨rfl, n, rfl⟩
        rw [decide_eq_true (rfl : fields s.data.toList = fields s.data.toList)]
        go_wp2_with fail
        refine (HF.out _).mono ?_
        rintro e w5 ⟨A5, c5, rfl, r5, b5⟩
        have R5 := Lib.hid r5
        have R2'' := Lib.hid ((R2'.out.below (bdN (Below.refl _ _) n)).below b5)
        have B5 := Lib.hid ((bdN B3.out n).trans (b5.mono (bdN B3.out n).size))
        clear r5 b5
        go_wp2_with fail
        refine (strings_any A5 A c5 c _ _ _ R5.out R2''.out (by simp [maxLen]; omega) (by simp [maxLen]; omega)).mono ?_
        rintro e w6 ⟨rfl, n6, rfl⟩
        rw [decide_eq_true (rfl : fields s.data.toList = fields s.data.toList)]
        go_wp2_with fail
        go_ret
        exact ⟨rfl, bdN B5.out _⟩
end Go.Proofs.YtdjpnncehlmehaaDoor
