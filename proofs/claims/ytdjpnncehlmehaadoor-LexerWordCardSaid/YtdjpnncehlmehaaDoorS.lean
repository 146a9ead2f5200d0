/- The laws on names and lines: the walks. -/
import Derived.Test.YtdjpnncehlmehaaDoorQ
namespace Go.Proofs.YtdjpnncehlmehaaDoor
open Go.RowKit

theorem lines_len (l : List UInt8) : (lines l).length ≤ l.length + 1 := by
  have := (splitNl_len l).2
  unfold lines
  split
  · simp; omega
  · exact this
theorem joinNl_take (ls : List (List UInt8)) (k : Nat) : (joinNl (ls.take k)).length ≤ (joinNl ls).length := by
  induction ls generalizing k with
  | nil => simp
  | cons x r ih =>
    cases k with
    | zero => simp [joinNl]
    | succ k =>
      have := ih k
      simp only [joinNl, List.take_succ_cons, List.flatMap_cons, List.length_append] at this ⊢
      omega
theorem join_len_take (s : ByteArray) (k : Nat) : (joinNl ((lines s.data.toList).take k)).length ≤ s.size + 1 := by
  have h2 := joinNl_take (splitNl s.data.toList) k
  rw [join_split] at h2
  have h3 : (joinNl ((lines s.data.toList).take k)).length ≤ (joinNl ((splitNl s.data.toList).take k)).length := by
    unfold lines
    split
    · rw [List.dropLast_eq_take, List.take_take, Nat.min_comm, Nat.min_comm, ← List.take_take, List.take_take, Nat.min_comm, ← List.take_take]
      exact joinNl_take _ _
    · exact Nat.le_refl _
  simp only [List.length_append, List.length_cons, List.length_nil, len_data] at h2
  omega
theorem wholeB_at (s : ByteArray) (h : 0 < s.size) : wholeB s.data.toList = ((s[s.size - 1].toNat : Int) == 10) := by
  unfold wholeB
  have h' : s.data.toList.length - 1 < s.data.toList.length := by rw [len_data]; omega
  rw [List.getLast?_eq_getElem?, List.getElem?_eq_getElem h']
  simp only
  have e : s.data.toList[s.data.toList.length - 1] = s[s.size - 1] := by
    simp only [len_data]; rfl
  rw [e]
  rw [Bool.eq_iff_iff]; simp
set_option maxRecDepth 100000 in
set_option maxHeartbeats 2000000 in
theorem lawLines (s : ByteArray) (w : World) (hs : s.size ≤ maxLen) (hsh : w.ShapedOpen Tryd.prog) :
    Calls Tryd.prog 6 #[.string s] w fun e w' => e = .returned (.bool true) ∧ Below w.heap.size w w' := by
  have HA := Lib.hid (fun (w : World) (h : w.ShapedOpen Tryd.prog) => awake_any w h)
  have HSH := Lib.hid hsh
  unfold maxLen at hs
  clear hsh
  by_cases hc : 2000 < s.size
  · go_enter Tryd.func6, Tryd.ntmps6
    go_wp2_with fail
    refine (HA.out _ HSH.out).mono ?_
    rintro e w1 ⟨rfl, b1⟩
    have B1 := Lib.hid b1
    clear b1
    go_wp2_with fail
    refine (HA.out _ (shaped_below HSH.out B1.out)).mono ?_
    rintro e w2 ⟨rfl, b2⟩
    go_wp2_with fail
    go_ret
    exact ⟨rfl, B1.out.trans (b2.mono B1.out.size)⟩
  · have HL := Lib.hid (fun (w : World) (h : w.ShapedOpen Tryd.prog) => lexLines_any s w (by omega) h)
    have HR := Lib.hid (fun w => refLines_any s w (by omega))
    go_enter Tryd.func6, Tryd.ntmps6
    go_wp2_with fail
    refine (HA.out _ HSH.out).mono ?_
    rintro e w1 ⟨rfl, b1⟩
    have B1 := Lib.hid b1
    clear b1
    go_wp2_with fail
    refine (HL.out _ (shaped_below HSH.out B1.out)).mono ?_
    rintro e w2 ⟨A, c, rfl, r2, b2⟩
    have R2 := Lib.hid r2
    have B2 := Lib.hid (B1.out.trans (b2.mono B1.out.size))
    clear r2 b2
    have HT := Lib.hid (join_len_take s)
    have HN := Lib.hid (lines_len s.data.toList)
    go_wp2_with fail
    go_loop [4, 20] (fun o i => ∃ k : Nat, i = .int .i64 k ∧ k ≤ (lines s.data.toList).length ∧ o = .string ⟨(joinNl ((lines s.data.toList).take k)).toArray⟩) (fun _ i => (lines s.data.toList).length - (intOf i).toNat)
    case atStart => exact ⟨0, rfl, by omega, rfl⟩
    case round =>
      obtain ⟨k, rfl, hk, rfl⟩ := hrel
      have hn := HN.out
      rw [len_data] at hn
      by_cases hlt : k < (lines s.data.toList).length
      · obtain ⟨g, o, rfl, hg, hcc⟩ := R2.out.cells (by simp [strC]; omega)
        have ca : w2.cell? ⟨g, o + k, none⟩ = some (.string ⟨((lines s.data.toList)[k]).toArray⟩) := hcc k _ (by simp [strC, hlt])
        have i1 : (k : Int) < ((lines s.data.toList).length : Int) := by omega
        have hj1 := HT.out k
        have hj2 := HT.out (k + 1)
        rw [List.take_succ_eq_append_getElem hlt, joinNl_snoc] at hj2
        simp only [List.length_append, List.length_cons, List.length_nil] at hj2
        have HK : Hid (joinNl ((lines s.data.toList).take (k + 1)) = joinNl ((lines s.data.toList).take k) ++ ((lines s.data.toList)[k] ++ [10])) := Lib.hid (by rw [List.take_succ_eq_append_getElem hlt, joinNl_snoc])
        clear hcc
        go_wp2_with fail
        go_round
        case rel =>
          refine ⟨k + 1, by go_num, by omega, ?_⟩
          rw [HK.out, str_snoc, str_snoc]
        case measure => simp [intOf]; omega
      · have HK : Hid ((lines s.data.toList).take k = lines s.data.toList) := Lib.hid (List.take_of_length_le (by omega))
        rw [HK.out]
        have HJ := Lib.hid (join_lines s.data.toList)
        by_cases h0 : s.size = 0
        · have hq : s.toList.isEmpty = true := by rw [Lib.toList_data, is_empty s h0]; rfl
          go_wp2_with fail
          refine (HR.out _).mono ?_
          rintro e w3 ⟨A3, c3, rfl, r3, b3⟩
          have R3 := Lib.hid r3
          have R2' := Lib.hid (R2.out.below b3)
          have B3 := Lib.hid (B2.out.trans (b3.mono B2.out.size))
          clear r3 b3
          go_wp2_with fail
          refine (strings_any A A3 c c3 _ _ _ R2'.out R3.out (by simp [maxLen]; omega) (by simp [maxLen]; omega)).mono ?_
          rintro e w4 ⟨rfl, n, rfl⟩
          rw [decide_eq_true (rfl : lines s.data.toList = lines s.data.toList)]
          go_wp2_with fail
          go_ret
          refine ⟨ret_bool ?_, below_drewN B3.out _⟩
          rw [Lib.toList_data, beq_iff_eq]
          have h := HJ.out
          rw [show wholeB s.data.toList = true from by rw [is_empty s h0]; rfl, decide_eq_true_eq] at h
          exact h
        · have hq : s.toList.isEmpty = false := by rw [Lib.toList_data]; exact not_empty s (by omega)
          have hwb := wholeB_at s (by omega)
          rw [hwb] at HJ
          have j0 : (0 : Int) ≤ (s.size : Int) - 1 := by omega
          have j1 : ((s.size : Int) - 1).toNat = s.size - 1 := by omega
          have j2 : s.size - 1 < s.size := by omega
          clear hwb
          go_wp2_with fail
          refine (HR.out _).mono ?_
          rintro e w3 ⟨A3, c3, rfl, r3, b3⟩
          have R3 := Lib.hid r3
          have R2' := Lib.hid (R2.out.below b3)
          have B3 := Lib.hid (B2.out.trans (b3.mono B2.out.size))
          clear r3 b3
          go_wp2_with fail
          refine (strings_any A A3 c c3 _ _ _ R2'.out R3.out (by simp [maxLen]; omega) (by simp [maxLen]; omega)).mono ?_
          rintro e w4 ⟨rfl, n, rfl⟩
          rw [decide_eq_true (rfl : lines s.data.toList = lines s.data.toList)]
          go_wp2_with fail
          go_ret
          refine ⟨ret_bool ?_, below_drewN B3.out _⟩
          rw [Lib.toList_data, show (joinNl (lines s.data.toList) == s.data.toList) = decide (joinNl (lines s.data.toList) = s.data.toList) from by rw [Bool.eq_iff_iff]; simp, HJ.out]
          simp

theorem name_iff (l : List UInt8) : isName l = true ↔ ∃ t, toksR l = ([t], 0, 0) ∧ t.kind = 1 ∧ t.text = l :=
  ⟨fun h => ⟨_, toksR_name l h, rfl, rfl⟩, fun ⟨t, h, hk, ht⟩ => name_toksR l t h hk ht⟩
theorem toksR_line (l : List UInt8) (h : (toksR l).2.2 = 0) : (toksR l).2.1 = 0 := by
  unfold toksR at h ⊢
  split
  · rfl
  · split
    · rfl
    · rename_i h1 _ n hn; rw [if_neg h1, hn] at h; simp at h
set_option maxRecDepth 100000 in
set_option maxHeartbeats 2000000 in
theorem lawNames (s : ByteArray) (w : World) (hs : s.size ≤ maxLen) (hsh : w.ShapedOpen Tryd.prog) :
    Calls Tryd.prog 7 #[.string s] w fun e w' => e = .returned (.bool true) ∧ Below w.heap.size w w' := by
  have HA := Lib.hid (fun (w : World) (h : w.ShapedOpen Tryd.prog) => awake_any w h)
  have HSH := Lib.hid hsh
  have HI := Lib.hid (fun w => lexIsName_any s w hs)
  have HI2 := Lib.hid (fun w => refIsName_any s w hs)
  have HT := Lib.hid (fun w => lexTokens_all s w hs)
  unfold maxLen at hs
  clear hsh
  by_cases hc : 100 < s.size
  · go_enter Tryd.func7, Tryd.ntmps7
    go_wp2_with fail
    refine (HA.out _ HSH.out).mono ?_
    rintro e w1 ⟨rfl, b1⟩
    have B1 := Lib.hid b1
    clear b1
    go_wp2_with fail
    refine (HA.out _ (shaped_below HSH.out B1.out)).mono ?_
    rintro e w2 ⟨rfl, b2⟩
    go_wp2_with fail
    go_ret
    exact ⟨rfl, B1.out.trans (b2.mono B1.out.size)⟩
  · have HN := Lib.hid (name_iff s.data.toList)
    cases hn : isName s.data.toList
    · have HF := Lib.hid hn
      clear hn
      rw [HF.out] at HI HI2
      go_enter Tryd.func7, Tryd.ntmps7
      go_wp2_with fail
      refine (HA.out _ HSH.out).mono ?_
      rintro e w1 ⟨rfl, b1⟩
      have B1 := Lib.hid b1
      clear b1
      go_wp2_with fail
      refine (HT.out _).mono ?_
      rintro e w2 ⟨A, c, rfl, r2, b2⟩
      have R2 := Lib.hid r2
      have B2 := Lib.hid (B1.out.trans (b2.mono B1.out.size))
      clear r2 b2
      have hcase : (toksR s.data.toList).2.2 ≠ 0 ∨ ((toksR s.data.toList).2.2 = 0 ∧ (toksR s.data.toList).1.length ≠ 1) ∨ ((toksR s.data.toList).2.2 = 0 ∧ ∃ t, (toksR s.data.toList).1 = [t] ∧ ¬ (t.kind = 1 ∧ t.text = s.data.toList)) := by
        by_cases he : (toksR s.data.toList).2.2 = 0
        · right
          by_cases hl : (toksR s.data.toList).1.length = 1
          · right
            obtain ⟨t, ht⟩ := List.length_eq_one_iff.1 hl
            refine ⟨he, t, ht, fun hk => ?_⟩
            have : isName s.data.toList = true := HN.out.2 ⟨t, Prod.ext ht (Prod.ext (toksR_line _ he) he), hk.1, hk.2⟩
            rw [HF.out] at this; cases this
          · exact .inl ⟨he, hl⟩
        · exact .inl he
      rcases hcase with h | ⟨h, h'⟩ | ⟨h, t, h', h''⟩
      · have x1 : ((toksR s.data.toList).2.2 == 0) = false := by simp [h]
        clear h
        go_wp2_with (first | (go_at_call 21; refine (HI.out _).mono ?_; rintro e w3 ⟨rfl, rfl⟩) | (go_at_call 22; refine (HI2.out _).mono ?_; rintro e w3 ⟨rfl, rfl⟩))
        go_ret
        exact ⟨rfl, B2.out⟩
      · have x1 : ((toksR s.data.toList).2.2 == 0) = true := by simp [h]
        have x2 : (((toksR s.data.toList).1.length : Int) == 1) = false := by rw [beq_eq_false_iff_ne]; omega
        clear h h'
        go_wp2_with (first | (go_at_call 21; refine (HI.out _).mono ?_; rintro e w3 ⟨rfl, rfl⟩) | (go_at_call 22; refine (HI2.out _).mono ?_; rintro e w3 ⟨rfl, rfl⟩))
        go_ret
        exact ⟨rfl, B2.out⟩
      · have x1 : ((toksR s.data.toList).2.2 == 0) = true := by simp [h]
        have hl : (toksR s.data.toList).1.length = 1 := by rw [h']; rfl
        have x2 : (((toksR s.data.toList).1.length : Int) == 1) = true := by rw [hl]; rfl
        obtain ⟨g, o, rfl, hg, hcc⟩ := R2.out.cells (by rw [toksC_len]; omega)
        obtain ⟨a0, a1, a2, a3, a4⟩ := toks_cells hcc (k := 0) (by omega)
        clear a2 a3 a4
        have e0 : (toksR s.data.toList).1[0]'(by omega) = t := by simp only [h']; rfl
        rw [e0] at a0 a1
        simp only [Nat.zero_mul, Nat.add_zero] at a0 a1
        have i0 : (0 : Int) < ((toksR s.data.toList).1.length : Int) := by omega
        have i1 : 0 < (toksR s.data.toList).1.length := by omega
        clear hcc h h' hl e0
        by_cases hk : t.kind = 1
        · have x3 : (t.kind == 1) = true := by simp [hk]
          have hte : t.text ≠ s.data.toList := fun e => h'' ⟨hk, e⟩
          have x4 : (t.text == s.toList) = false := by rw [Lib.toList_data, beq_eq_false_iff_ne]; exact hte
          clear hk hte h''
          go_wp2_with (first | (go_at_call 21; refine (HI.out _).mono ?_; rintro e w3 ⟨rfl, rfl⟩) | (go_at_call 22; refine (HI2.out _).mono ?_; rintro e w3 ⟨rfl, rfl⟩))
          go_ret
          exact ⟨rfl, B2.out⟩
        · have x3 : (t.kind == 1) = false := by simp [hk]
          clear hk h''
          go_wp2_with (first | (go_at_call 21; refine (HI.out _).mono ?_; rintro e w3 ⟨rfl, rfl⟩) | (go_at_call 22; refine (HI2.out _).mono ?_; rintro e w3 ⟨rfl, rfl⟩))
          go_ret
          exact ⟨rfl, B2.out⟩
    · have HF := Lib.hid hn
      have HR := Lib.hid (toksR_name s.data.toList hn)
      clear hn
      rw [HF.out] at HI HI2
      have x4 : (s.data.toList == s.toList) = true := by rw [Lib.toList_data, beq_iff_eq]
      go_enter Tryd.func7, Tryd.ntmps7
      go_wp2_with fail
      refine (HA.out _ HSH.out).mono ?_
      rintro e w1 ⟨rfl, b1⟩
      have B1 := Lib.hid b1
      clear b1
      go_wp2_with fail
      refine (HT.out _).mono ?_
      rintro e w2 ⟨A, c, rfl, r2, b2⟩
      rw [HR.out] at r2 ⊢
      have R2 := Lib.hid r2
      have B2 := Lib.hid (B1.out.trans (b2.mono B1.out.size))
      clear r2 b2
      obtain ⟨g, o, rfl, hg, hcc⟩ := R2.out.cells (by rw [toksC_len]; simp)
      obtain ⟨a0, a1, a2, a3, a4⟩ := toks_cells hcc (k := 0) (by simp)
      clear a2 a3 a4
      simp only [Nat.zero_mul, Nat.add_zero, List.getElem_cons_zero] at a0 a1
      clear hcc
      go_wp2_with (first | (go_at_call 21; refine (HI.out _).mono ?_; rintro e w3 ⟨rfl, rfl⟩) | (go_at_call 22; refine (HI2.out _).mono ?_; rintro e w3 ⟨rfl, rfl⟩))
      go_ret
      exact ⟨rfl, B2.out⟩
end Go.Proofs.YtdjpnncehlmehaaDoor
