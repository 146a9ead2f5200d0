/- The contract of the reference's Show. -/
import Derived.Test.YthmoplkleopahaaDoorRefL
namespace Go.Proofs.YthmoplkleopahaaDoor
open Go.RowKit

set_option maxRecDepth 100000 in
set_option maxHeartbeats 1000000 in
theorem refShow_none (s : List UInt8) (w : World) (hs : s.length ≤ 2100) (hd : decE s = none) : Calls Tryd.prog 21 #[.string ⟨s.toArray⟩] w (RetStr (showE none) w) := by
  have HD := Lib.hid (refDecode_none s w (by omega) hd)
  clear hd
  go_enter Tryd.func21, Tryd.ntmps21
  go_wp2_with fail
  refine HD.out.mono ?_
  rintro e w1 ⟨rfl, b1⟩
  go_wp2_with fail
  go_ret
  exact ret_st rfl (bon b1 (below_new w1 _))
set_option maxRecDepth 100000 in
set_option maxHeartbeats 1000000 in
theorem refShow_join (s : List UInt8) (w : World) (hs : s.length ≤ 2100) (c : Int) (h0 : 0 ≤ c) (h1 : c < 6) (hd : decE s = some ⟨2, c, []⟩) : Calls Tryd.prog 21 #[.string ⟨s.toArray⟩] w (RetStr (showE (some ⟨2, c, []⟩)) w) := by
  have HD := Lib.hid (refDecode_some s w (by omega) _ hd)
  have HY : Hid (showE (some ⟨2, c, []⟩) = [106, 111, 105, 110, 32] ++ Lib.itoa c) := Lib.hid rfl
  have hil := itoa_one c h0 (by omega)
  have hq : ¬ (9223372036854775807 < 5 + (Lib.itoa c).length) := by omega
  clear hd
  go_enter Tryd.func21, Tryd.ntmps21
  go_wp2_with fail
  refine HD.out.mono ?_
  rintro e w1 ⟨A1, c1, ⟨rfl, q1⟩, b1⟩
  have B1 := Lib.hid (bon b1 (below_new w1 (.cells #[.int .i64 2, .int .i64 c, .slice A1 0 c1] 24)))
  clear b1 q1
  simp only [List.length_nil]
  go_wp2_with fail
  refine (digits_any c h0 (by omega) _).mono ?_
  rintro e w2 ⟨rfl, b2⟩
  go_wp2_with fail
  go_ret
  exact ret_st2' _ (by rw [HY.out]; first | rfl | simp [str_cat]) (bon B1.out b2)
set_option maxRecDepth 100000 in
set_option maxHeartbeats 1000000 in
theorem refShow_finish (s : List UInt8) (w : World) (hs : s.length ≤ 2100) (hd : decE s = some ⟨3, 0, []⟩) : Calls Tryd.prog 21 #[.string ⟨s.toArray⟩] w (RetStr (showE (some ⟨3, 0, []⟩)) w) := by
  have HD := Lib.hid (refDecode_some s w (by omega) _ hd)
  clear hd
  go_enter Tryd.func21, Tryd.ntmps21
  go_wp2_with fail
  refine HD.out.mono ?_
  rintro e w1 ⟨A1, c1, ⟨rfl, q1⟩, b1⟩
  clear q1
  go_wp2_with fail
  go_ret
  exact ret_st rfl (bon b1 (below_new w1 _))
set_option maxRecDepth 100000 in
set_option maxHeartbeats 1000000 in
theorem refShow_noop (s : List UInt8) (w : World) (hs : s.length ≤ 2100) (hd : decE s = some ⟨1, 0, []⟩) : Calls Tryd.prog 21 #[.string ⟨s.toArray⟩] w (RetStr (showE (some ⟨1, 0, []⟩)) w) := by
  have HD := Lib.hid (refDecode_some s w (by omega) _ hd)
  clear hd
  go_enter Tryd.func21, Tryd.ntmps21
  go_wp2_with fail
  refine HD.out.mono ?_
  rintro e w1 ⟨A1, c1, ⟨rfl, q1⟩, b1⟩
  clear q1
  simp only [List.length_nil]
  go_wp2_with fail
  go_ret
  exact ret_st rfl (bon b1 (below_new w1 _))
theorem joinS_part_len (l : List Rq) (h : ∀ r ∈ l, RqB r) : (joinS [59, 32] (l.map partR)).length ≤ 222 * l.length := by
  have h1 := joinS_len [59, 32] (l.map partR)
  have h2 := parts_tot l h
  simp only [List.length_map, List.length_cons, List.length_nil] at h1
  omega
set_option maxRecDepth 100000 in
set_option maxHeartbeats 4000000 in
theorem refShow_batch (s : List UInt8) (w : World) (hs : s.length ≤ 2100) (rs : List Rq) (hrs : rs ≠ []) (h8 : rs.length ≤ 8) (hB : ∀ r ∈ rs, RqB r) (hd : decE s = some ⟨1, 0, rs⟩) : Calls Tryd.prog 21 #[.string ⟨s.toArray⟩] w (RetStr (showE (some ⟨1, 0, rs⟩)) w) := by
  have HD := Lib.hid (refDecode_some s w (by omega) _ hd)
  have HY : Hid (showE (some ⟨1, 0, rs⟩) = wBatch ++ [32] ++ joinS [59, 32] (rs.map partR)) := Lib.hid (by unfold showE; simp [hrs])
  have HBs := Lib.hid hB
  have hp0 := pos_of_ne hrs
  have hne0 : ((rs.length : Int) == 0) = false := by rw [beq_eq_false_iff_ne]; omega
  clear hd hB hrs
  go_enter Tryd.func21, Tryd.ntmps21
  go_wp2_with fail
  refine HD.out.mono ?_
  rintro e w1 ⟨A1, c1, ⟨rfl, q1⟩, b1⟩
  have B1 := Lib.hid b1
  have HQ1 : Hid (RqIn w1 A1 c1 rs) := Lib.hid q1
  clear b1 q1
  go_wp2_with fail
  go_loopw [5, 6] (fun o i wr => ∃ (j : Nat) (p : List UInt8), i = .int .i64 j ∧ j ≤ rs.length ∧ o = .string ⟨p.toArray⟩ ∧ p = wBatch ++ [32] ++ joinS [59, 32] ((rs.take j).map partR) ∧ Bx w1 [.int .i64 1, .int .i64 0, .slice A1 rs.length c1] 24 wr) (fun _ i _ => rs.length - (intOf i).toNat)
  case atStart => exact ⟨0, _, rfl, by omega, rfl, by simp [wBatch, joinS], bx_new w1 _ _⟩
  case round =>
    obtain ⟨j, p, rfl, hj, rfl, hp, hbx⟩ := hrel
    have hpl : p.length ≤ 6 + 222 * j := by
      have h9 := joinS_part_len (rs.take j) (fun r hr => HBs.out r (List.mem_of_mem_take hr))
      rw [List.length_take, Nat.min_eq_left hj] at h9
      rw [hp]; simp only [List.length_append, wBatch, List.length_cons, List.length_nil]; omega
    have HP := Lib.hid hp
    have HBX := Lib.hid hbx
    have d2 : wr.cell? ⟨w1.heap.size, 2, none⟩ = some (.slice A1 rs.length c1) := bx_cell hbx 2 _ rfl
    have hbs := bx_size hbx
    clear hp hbx
    by_cases hlt : j < rs.length
    · have i0' : (0 : Int) ≤ (j : Int) := by omega
      have i1 : (j : Int) < (rs.length : Int) := by omega
      obtain ⟨g, o, rfl, hg, hcc⟩ := HQ1.out.rd.at rqC_len (by omega) hlt
      have a0 := hcc wr (bx_low HBX.out) 0 _ rfl
      have a1 := hcc wr (bx_low HBX.out) 1 _ rfl
      have a2 := hcc wr (bx_low HBX.out) 2 _ rfl
      simp only [Nat.add_zero] at a0
      clear hcc
      obtain ⟨o1, o2, o3, o4, o5, o6⟩ := HBs.out rs[j] (List.getElem_mem hlt)
      have HI0 : Hid (∀ (n : Int) w1, 0 ≤ n → n ≤ 1000000 → Bx wr (rqC rs[j]) 42 w1 → Calls Tryd.prog 41 #[.int .i64 n] w1 (Gives wr (rqC rs[j]) 42 (Lib.itoa n))) :=
        Lib.hid (fun n w1 h0 h1 hb => gives_of hb (digits_any n h0 (by omega) w1))
      have n1 : rs[j].client ≤ 1000000 := by omega
      have n2 : 0 ≤ rs[j].number := by omega
      have l1 := itoa_one rs[j].client o1 (by omega)
      have l2 := itoa_len rs[j].number n2 (by omega)
      have HC : Hid (∀ w1, Bx wr (rqC rs[j]) 42 w1 → w1.cell? ⟨wr.heap.size, 0, none⟩ = some (.int .i64 rs[j].client) ∧ w1.cell? ⟨wr.heap.size, 1, none⟩ = some (.int .i64 rs[j].number) ∧ w1.cell? ⟨wr.heap.size, 2, none⟩ = some (.string ⟨rs[j].op.toArray⟩)) :=
        Lib.hid (fun w1 hb => ⟨bx_cell hb 0 _ rfl, bx_cell hb 1 _ rfl, bx_cell hb 2 _ rfl⟩)
      have H0 : Bx wr (rqC rs[j]) 42 (wr.alloc (.cells #[.int .i64 rs[j].client, .int .i64 rs[j].number, .string ⟨rs[j].op.toArray⟩] 42)) := bx_new wr (rqC rs[j]) 42
      have HTk : Hid (joinS [59, 32] ((rs.take (j + 1)).map partR) = if (rs.take j).map partR = [] then partR rs[j] else joinS [59, 32] ((rs.take j).map partR) ++ [59, 32] ++ partR rs[j]) := Lib.hid (by
        rw [List.take_succ_eq_append_getElem hlt, List.map_append, List.map_cons, List.map_nil, joinS_snoc])
      have HJ : Hid (joinS [59, 32] ((rs.take (j + 1)).map partR) = if j = 0 then partR rs[j] else joinS [59, 32] ((rs.take j).map partR) ++ [59, 32] ++ partR rs[j]) := Lib.hid (by
        by_cases hj0 : j = 0
        · rw [HTk.out, if_pos hj0, if_pos (by rw [hj0]; rfl)]
        · have hne : ¬ (rs.take j).map partR = [] := by
            intro h
            have h9 := congrArg List.length h
            simp only [List.length_map, List.length_take, List.length_nil] at h9
            omega
          rw [HTk.out, if_neg hj0, if_neg hne])
      by_cases hj0 : j = 0
      · subst hj0
        have HJ2 := Lib.hid (HJ.out.trans (if_pos rfl))
        obtain ⟨p2, hp2⟩ : ∃ p2, p2 = p := ⟨_, rfl⟩
        have HP2 : Hid (p2 = wBatch ++ [32]) := Lib.hid (by rw [hp2, HP.out]; simp [joinS])
        have hl2 : p2.length ≤ 2000 := by rw [hp2]; omega
        simp only [Nat.zero_mul, Nat.add_zero] at a0 a1 a2
        subst hp2
        go_wp2_with fail
        have q1 : ¬ (9223372036854775807 < p2.length + 1) := by omega
        have q2 : ¬ (9223372036854775807 < p2.length + 1 + (Lib.itoa rs[0].client).length) := by omega
        have q3 : ¬ (9223372036854775807 < p2.length + 1 + (Lib.itoa rs[0].client).length + 1) := by omega
        have q4 : ¬ (9223372036854775807 < p2.length + 1 + (Lib.itoa rs[0].client).length + 1 + (Lib.itoa rs[0].number).length) := by omega
        have q5 : ¬ (9223372036854775807 < p2.length + 1 + (Lib.itoa rs[0].client).length + 1 + (Lib.itoa rs[0].number).length + 1) := by omega
        have q6 : ¬ (9223372036854775807 < p2.length + 1 + (Lib.itoa rs[0].client).length + 1 + (Lib.itoa rs[0].number).length + 1 + rs[0].op.length) := by omega
        go_region_held3 (fun w1 => w1.cell? ⟨wr.heap.size, 0, none⟩ = some (.int .i64 rs[0].client) ∧ w1.cell? ⟨wr.heap.size, 1, none⟩ = some (.int .i64 rs[0].number) ∧ w1.cell? ⟨wr.heap.size, 2, none⟩ = some (.string ⟨rs[0].op.toArray⟩))
          (first | exact HC.out _ (bx_drew ‹Bx wr _ _ _›) | exact HC.out _ ‹Bx wr _ _ _›)
          (first
            | (go_at_call 41; refine (HI0.out _ _ (by assumption) (by assumption) (by first | assumption | exact bx_drew ‹Bx wr _ _ _›)).mono ?_; rintro e w2 ⟨rfl, b2⟩))
        all_goals
          have HB2 := Lib.hid b2
          clear b2
          go_wp2_with fail
          go_roundw
          case rel =>
            refine ⟨0 + 1, p2 ++ partR rs[0], by go_num, by omega, by simp [partR, str_cat], ?_, bx_on HBX.out (bx_low HB2.out)⟩
            rw [HP2.out, HJ2.out]
          case measure => simp [intOf]; omega
      · have hjn : (0 : Int) < (j : Int) := by omega
        have HJ2 := Lib.hid (HJ.out.trans (if_neg hj0))
        obtain ⟨p2, hp2⟩ : ∃ p2, p2 = p ++ [59, 32] := ⟨_, rfl⟩
        have HP2 : Hid (p2 = wBatch ++ [32] ++ joinS [59, 32] ((rs.take j).map partR) ++ [59, 32]) := Lib.hid (by rw [hp2, HP.out])
        have hl2 : p2.length ≤ 2000 := by rw [hp2]; simp only [List.length_append, List.length_cons, List.length_nil]; omega
        have hcat : (⟨p.toArray⟩ : ByteArray) ++ ⟨#[59, 32]⟩ = ⟨p2.toArray⟩ := by rw [hp2]; exact (str_cat p [59, 32]).symm
        clear hp2 hj0
        go_wp2_with fail
        try rw [hcat]
        have q1 : ¬ (9223372036854775807 < p2.length + 1) := by omega
        have q2 : ¬ (9223372036854775807 < p2.length + 1 + (Lib.itoa rs[j].client).length) := by omega
        have q3 : ¬ (9223372036854775807 < p2.length + 1 + (Lib.itoa rs[j].client).length + 1) := by omega
        have q4 : ¬ (9223372036854775807 < p2.length + 1 + (Lib.itoa rs[j].client).length + 1 + (Lib.itoa rs[j].number).length) := by omega
        have q5 : ¬ (9223372036854775807 < p2.length + 1 + (Lib.itoa rs[j].client).length + 1 + (Lib.itoa rs[j].number).length + 1) := by omega
        have q6 : ¬ (9223372036854775807 < p2.length + 1 + (Lib.itoa rs[j].client).length + 1 + (Lib.itoa rs[j].number).length + 1 + rs[j].op.length) := by omega
        go_region_held3 (fun w1 => w1.cell? ⟨wr.heap.size, 0, none⟩ = some (.int .i64 rs[j].client) ∧ w1.cell? ⟨wr.heap.size, 1, none⟩ = some (.int .i64 rs[j].number) ∧ w1.cell? ⟨wr.heap.size, 2, none⟩ = some (.string ⟨rs[j].op.toArray⟩))
          (first | exact HC.out _ (bx_drew ‹Bx wr _ _ _›) | exact HC.out _ ‹Bx wr _ _ _›)
          (first
            | (go_at_call 41; refine (HI0.out _ _ (by assumption) (by assumption) (by first | assumption | exact bx_drew ‹Bx wr _ _ _›)).mono ?_; rintro e w2 ⟨rfl, b2⟩))
        all_goals
          have HB2 := Lib.hid b2
          clear b2
          go_wp2_with fail
          go_roundw
          case rel =>
            refine ⟨j + 1, p2 ++ partR rs[j], by go_num, by omega, by simp [partR, str_cat], ?_, bx_on HBX.out (bx_low HB2.out)⟩
            rw [HP2.out, HJ2.out]; simp only [List.append_assoc]
          case measure => simp [intOf]; omega
    · have hje : j = rs.length := by omega
      have HZ : Hid (showE (some ⟨1, 0, rs⟩) = p) := Lib.hid (by rw [HY.out, HP.out, List.take_of_length_le (by omega)])
      clear hje
      go_wp2_with fail
      go_ret
      exact ret_st HZ.out (bon B1.out (bx_low HBX.out))
theorem refShow_any (s : List UInt8) (w : World) (hs : s.length ≤ 2100) : Calls Tryd.prog 21 #[.string ⟨s.toArray⟩] w (RetStr (showE (decE s)) w) := by
  cases hd : decE s with
  | none => exact refShow_none s w hs hd
  | some x =>
    obtain ⟨k, c, rs⟩ := x
    rcases vEn_kind _ (decE_right hd).1 with ⟨h1, h2, h8, hB⟩ | ⟨h1, h2, h3, h4⟩ | ⟨h1, h2, h4⟩ <;> simp only [] at h1 h2 <;> subst h1
    · subst h2
      by_cases hr : rs = []
      · subst hr; exact refShow_noop s w hs hd
      · exact refShow_batch s w hs rs hr h8 hB hd
    · simp only [] at h3 h4
      subst h4
      exact refShow_join s w hs c h2 h3 hd
    · simp only [] at h4
      subst h2 h4
      exact refShow_finish s w hs hd
end Go.Proofs.YthmoplkleopahaaDoor
