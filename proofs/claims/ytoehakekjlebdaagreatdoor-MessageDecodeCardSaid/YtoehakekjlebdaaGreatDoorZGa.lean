/- The contract of the reference's seal Decode. -/
import Derived.Test.YtoehakekjlebdaaGreatDoorZWg
import Derived.Test.YtoehakekjlebdaaGreatDoorZSa
import Derived.Test.YtoehakekjlebdaaGreatDoorZPl
import Derived.Test.YtoehakekjlebdaaGreatDoorZSd
namespace Go.Proofs.YtoehakekjlebdaaGreatDoor
open Go.RowKit

theorem sg_ints2 {s : List UInt8} {n0 n1 n2 n3 : Int} {k : Nat} (h : getInts s = some ([n0, n1, n2, n3], k)) (_hk : k ≤ s.length) :
    whole rdSg s = match getStr (s.drop k) with
      | none => none
      | some (d, j) => match getStr (s.drop (k + j)) with
        | none => none
        | some (g, m) => if k + j + m = s.length then some ⟨n0, n1, n2, n3, d, g⟩ else none := by
  have h1 : rdInts 4 s = some ([n0, n1, n2, n3], s.drop k) := by
    unfold rdInts off
    rw [h]
    rfl
  unfold whole rdSg
  rw [h1]
  simp only
  unfold rdText off
  cases h2 : getStr (s.drop k) with
  | none => rfl
  | some y =>
    obtain ⟨d, j⟩ := y
    have hj := getStr_le h2
    rw [List.length_drop] at hj
    simp only [List.drop_drop]
    cases h3 : getStr (s.drop (k + j)) with
    | none => rfl
    | some z =>
      obtain ⟨g, m⟩ := z
      have hm := getStr_le h3
      rw [List.length_drop] at hm
      simp only
      have e : (s.drop (k + j + m) = []) ↔ k + j + m = s.length := by
        rw [List.drop_eq_nil_iff]; omega
      by_cases hq : k + j + m = s.length
      · rw [if_pos (e.2 hq), if_pos hq]; simp
      · rw [if_neg (fun h => hq (e.1 h)), if_neg hq]
set_option maxRecDepth 100000 in
set_option maxHeartbeats 1000000 in
theorem refSealDec_any (s : ByteArray) (w : World) (hs : s.size ≤ 1099511627776) : Calls Tryz.prog 87 #[.string s] w (RetSgo (whole rdSg s.data.toList) w) := by
  have HA : Hid (∀ W, Calls Tryz.prog 85 #[.string s] W (RetN s.data.toList W)) := Lib.hid (fun W => refGetInts_any s W hs)
  have HV0 := Lib.hid (Vr.new w (sgC sg0) 24)
  have HB0 := Lib.hid (below_new w (.cells (sgC sg0).toArray 24))
  cases hg : getInts s.data.toList with
  | none =>
    have HR := Lib.hid (sg_ints_none hg)
    have HG : Hid (getInts s.data.toList = none) := Lib.hid hg
    clear hg
    go_enter Tryz.func87, Tryz.ntmps87
    go_wp2_with fail
    refine (retN_none (HA.out _) HG.out).mono ?_
    rintro e w1 ⟨⟨c, hc, rfl⟩, hb⟩
    have hc1 : (c == 0) = false := by simpa using hc
    have hc2 : (c != 0) = true := by simpa using hc
    have HV1 := Lib.hid (HV0.out.below hb)
    have HB1 := Lib.hid (bon HB0.out hb)
    clear hb
    go_wp2_with (refine wpList_store_mid rfl 24 _ _ rfl w.heap.size 0 (sgC sg0).toArray rfl rfl (HV1.out.there rfl) (infoSgN sg0) (sgC_one sg0) ?_)
    refine bodyPost_ret (v := .tuple #[.agg (sgC sg0).toArray, .int .i64 2]) ?_ rfl (ret_sgo_none HR.out (below_vs HB1.out (Nat.le_refl _) _))
    exact results_mid_slot Tryz.results87 _ _ w.heap.size (sgC sg0) _ _ rfl rfl (HV1.out.sets (sgC sg0) rfl).range Tryz.underlying24 rfl (infoSgN sg0)
  | some y =>
    obtain ⟨n, k⟩ := y
    have HG : Hid (getInts s.data.toList = some (n, k)) := Lib.hid hg
    have hk := getInts_leW hg
    by_cases hn : n.length = 4
    · obtain ⟨n0, n1, n2, n3, rfl⟩ := four_of n hn
      have HN := Lib.hid hn
      have HR0 := Lib.hid (sg_ints2 hg hk)
      rw [len_data] at hk
      have HD1 := Lib.hid (ext_end s k hk)
      have hz1 : (s.extract k s.size).size = s.size - k := by simp
      clear hg hn
      cases h1 : getStr (s.data.toList.drop k) with
      | none =>
        have HS1 := Lib.hid (rgets_none (s.extract k s.size))
        have HR : Hid (whole rdSg s.data.toList = none) := Lib.hid (by rw [HR0.out, h1])
        have HS : Hid (∀ W, Calls Tryz.prog 86 #[.string (s.extract k s.size)] W fun e w' => W = w' ∧ ∃ c : Int, c ≠ 0 ∧ e = .returned (.tuple #[.string ⟨#[]⟩, .int .i64 0, .int .i64 c])) := Lib.hid (fun W => rgets_none _ W (by omega) (by rw [HD1.out]; exact h1))
        clear h1 HS1 hz1
        go_enter Tryz.func87, Tryz.ntmps87
        go_wp2_with fail
        refine (retN_len (HA.out _) HG.out HN.out).mono ?_
        rintro e w1 ⟨⟨A, c, rfl, hr⟩, hb⟩
        have HV1 := Lib.hid (HV0.out.below hb)
        have HB1 := Lib.hid (bon HB0.out hb)
        clear hb hr
        go_wp2_with fail
        refine (HS.out _).mono ?_
        rintro e w2 ⟨rfl, c', hc, rfl⟩
        have hc1 : (c' == 0) = false := by simpa using hc
        have hc2 : (c' != 0) = true := by simpa using hc
        go_wp2_with (refine wpList_store_mid rfl 24 _ _ rfl w.heap.size 0 (sgC sg0).toArray rfl rfl (HV1.out.there rfl) (infoSgN sg0) (sgC_one sg0) ?_)
        refine bodyPost_ret (v := .tuple #[.agg (sgC sg0).toArray, .int .i64 2]) ?_ rfl (ret_sgo_none HR.out (below_vs HB1.out (Nat.le_refl _) _))
        exact results_mid_slot Tryz.results87 _ _ w.heap.size (sgC sg0) _ _ rfl rfl (HV1.out.sets (sgC sg0) rfl).range Tryz.underlying24 rfl (infoSgN sg0)
      | some y =>
        obtain ⟨d, j⟩ := y
        have hj := getStr_le h1
        rw [List.length_drop, len_data] at hj
        obtain ⟨j0, j1, j2⟩ := hj
        have HS : Hid (∀ W, Calls Tryz.prog 86 #[.string (s.extract k s.size)] W fun e w' => W = w' ∧ e = .returned (.tuple #[.string ⟨d.toArray⟩, .int .i64 j, .int .i64 0])) := Lib.hid (fun W => rgets_some _ W (by omega) d j (by rw [HD1.out]; exact h1))
        have HD2 := Lib.hid (ext_end s (k + j) (by omega))
        have hz2 : (s.extract (k + j) s.size).size = s.size - (k + j) := by simp
        have HR1 : Hid (whole rdSg s.data.toList = match getStr (s.data.toList.drop (k + j)) with
            | none => none
            | some (g, m) => if k + j + m = s.data.toList.length then some ⟨n0, n1, n2, n3, d, g⟩ else none) := Lib.hid (by rw [HR0.out, h1])
        clear h1 hz1
        cases h2 : getStr (s.data.toList.drop (k + j)) with
        | none =>
          have HR : Hid (whole rdSg s.data.toList = none) := Lib.hid (by rw [HR1.out, h2])
          have HS2 : Hid (∀ W, Calls Tryz.prog 86 #[.string (s.extract (k + j) s.size)] W fun e w' => W = w' ∧ ∃ c : Int, c ≠ 0 ∧ e = .returned (.tuple #[.string ⟨#[]⟩, .int .i64 0, .int .i64 c])) := Lib.hid (fun W => rgets_none _ W (by omega) (by rw [HD2.out]; exact h2))
          clear h2 hz2
          go_enter Tryz.func87, Tryz.ntmps87
          go_wp2_with fail
          refine (retN_len (HA.out _) HG.out HN.out).mono ?_
          rintro e w1 ⟨⟨A, c, rfl, hr⟩, hb⟩
          have HV1 := Lib.hid (HV0.out.below hb)
          have HB1 := Lib.hid (bon HB0.out hb)
          clear hb hr
          go_wp2_with fail
          refine (HS.out _).mono ?_
          rintro e w2 ⟨rfl, rfl⟩
          go_wp2_with fail
          refine (HS2.out _).mono ?_
          rintro e w2 ⟨rfl, c', hc, rfl⟩
          have hc1 : (c' == 0) = false := by simpa using hc
          have hc2 : (c' != 0) = true := by simpa using hc
          go_wp2_with (refine wpList_store_mid rfl 24 _ _ rfl w.heap.size 0 (sgC sg0).toArray rfl rfl (HV1.out.there rfl) (infoSgN sg0) (sgC_one sg0) ?_)
          refine bodyPost_ret (v := .tuple #[.agg (sgC sg0).toArray, .int .i64 2]) ?_ rfl (ret_sgo_none HR.out (below_vs HB1.out (Nat.le_refl _) _))
          exact results_mid_slot Tryz.results87 _ _ w.heap.size (sgC sg0) _ _ rfl rfl (HV1.out.sets (sgC sg0) rfl).range Tryz.underlying24 rfl (infoSgN sg0)
        | some y =>
          obtain ⟨g, m⟩ := y
          have hm := getStr_le h2
          rw [List.length_drop, len_data] at hm
          obtain ⟨m0, m1, m2⟩ := hm
          have HS2 : Hid (∀ W, Calls Tryz.prog 86 #[.string (s.extract (k + j) s.size)] W fun e w' => W = w' ∧ e = .returned (.tuple #[.string ⟨g.toArray⟩, .int .i64 m, .int .i64 0])) := Lib.hid (fun W => rgets_some _ W (by omega) g m (by rw [HD2.out]; exact h2))
          have HR2 : Hid (whole rdSg s.data.toList = if k + j + m = s.data.toList.length then some ⟨n0, n1, n2, n3, d, g⟩ else none) := Lib.hid (by rw [HR1.out, h2])
          clear h2 hz2
          by_cases hq : k + j + m = s.size
          · have HR : Hid (whole rdSg s.data.toList = some ⟨n0, n1, n2, n3, d, g⟩) := Lib.hid (by rw [HR2.out, if_pos (by rw [len_data]; exact hq)])
            have hq1 : ((k : Int) + (j : Int) + (m : Int) == (s.size : Int)) = true := by rw [beq_iff_eq]; omega
            have hq2 : ((k : Int) + (j : Int) + (m : Int) != (s.size : Int)) = false := by rw [bne_eq_false_iff_eq]; omega
            clear hq
            go_enter Tryz.func87, Tryz.ntmps87
            go_wp2_with fail
            refine (retN_len (HA.out _) HG.out HN.out).mono ?_
            rintro e w1 ⟨⟨A, c, rfl, hr⟩, hb⟩
            have HV1 := Lib.hid ((HV0.out.below hb).below (Below.refl _ _).drew)
            have HB1 := Lib.hid ((bon HB0.out hb).drew)
            have HRow := Lib.hid ((stays_row hr (Nat.le_refl _)).on (keeps_below _ (Below.refl _ _).drew))
            clear hb hr
            go_wp2_with fail
            refine (HS.out _).mono ?_
            rintro e w2 ⟨rfl, rfl⟩
            go_wp2_with fail
            refine (HS2.out _).mono ?_
            rintro e w2 ⟨rfl, rfl⟩
            go_wp2_with fail
            refine wp_region_noPanic ?_
            generalize hv : w1.drew = v at HV1 HB1 HRow
            obtain ⟨b, off, hA, hbl, hcc⟩ := ints_cells HRow.out.out (by simp)
            subst hA
            have HSz : Hid (w.heap.size + 1 = (w.alloc (.cells (sgC sg0).toArray 24)).heap.size) := Lib.hid (by simp)
            have HCW : Hid (∀ W, Keeps (w.heap.size + 1) v W → W.cell? ⟨b, off, none⟩ = some (.int .i64 n0) ∧ W.cell? ⟨b, off + 1, none⟩ = some (.int .i64 n1) ∧ W.cell? ⟨b, off + 2, none⟩ = some (.int .i64 n2) ∧ W.cell? ⟨b, off + 3, none⟩ = some (.int .i64 n3)) := Lib.hid (fun W hW => by
              obtain ⟨b2, o2, hA2, _, hc2⟩ := ints_cells (HRow.out W (by simpa using hW)) (by simp)
              simp only [Option.some.injEq, Addr.mk.injEq] at hA2
              obtain ⟨rfl, rfl, _⟩ := hA2
              exact ⟨hc2 0 _ rfl, hc2 1 _ rfl, hc2 2 _ rfl, hc2 3 _ rfl⟩)
            have hC := HCW.out v (Keeps.refl _ _)
            clear hcc hbl HRow
            refine wp_region_held_drew (S := fun W => W.cell? ⟨b, off, none⟩ = some (.int .i64 n0) ∧ W.cell? ⟨b, off + 1, none⟩ = some (.int .i64 n1) ∧ W.cell? ⟨b, off + 2, none⟩ = some (.int .i64 n2) ∧ W.cell? ⟨b, off + 3, none⟩ = some (.int .i64 n3)) (by kernel_rfl) (by rw [hv]; exact hC) (fun hHeld => ?_)
            rw [hv] at hHeld ⊢
            clear hv
            refine wpAnyH_take (i := 0) (oi := _) (v := ?_) rfl (by kernel_rfl) (by kernel_rfl) (by kernel_rfl) (fun _ _ _ h => h) (Or.inl ⟨by rfl, ?_⟩) (by assumption) ?_
            rotate_left
            · intro W hSw; (try dsimp only at hSw); go_simp; try with_reducible rfl
            try simp only [Act.put, List.setIfInBounds_toArray, List.set_cons_zero, List.set_cons_succ, List.getElem_toArray, List.getElem_cons_zero]
            refine wpAnyH_take (i := 1) (oi := _) (v := ?_) rfl (by kernel_rfl) (by kernel_rfl) (by kernel_rfl) (fun _ _ _ h => h) (Or.inl ⟨by rfl, ?_⟩) (by assumption) ?_
            rotate_left
            · intro W hSw; (try dsimp only at hSw); go_simp; try with_reducible rfl
            try simp only [Act.put, List.setIfInBounds_toArray, List.set_cons_zero, List.set_cons_succ, List.getElem_toArray, List.getElem_cons_succ, List.getElem_cons_zero]
            refine wpAnyH_take (i := 2) (oi := _) (v := ?_) rfl (by kernel_rfl) (by kernel_rfl) (by kernel_rfl) (fun _ _ _ h => h) (Or.inl ⟨by rfl, ?_⟩) (by assumption) ?_
            rotate_left
            · intro W hSw; (try dsimp only at hSw); go_simp; try with_reducible rfl
            try simp only [Act.put, List.setIfInBounds_toArray, List.set_cons_zero, List.set_cons_succ, List.getElem_toArray, List.getElem_cons_succ, List.getElem_cons_zero]
            refine wpAnyH_take (i := 3) (oi := _) (v := ?_) rfl (by kernel_rfl) (by kernel_rfl) (by kernel_rfl) (fun _ _ _ h => h) (Or.inl ⟨by rfl, ?_⟩) (by assumption) ?_
            rotate_left
            · intro W hSw; (try dsimp only at hSw); go_simp; try with_reducible rfl
            try simp only [Act.put, List.setIfInBounds_toArray, List.set_cons_zero, List.set_cons_succ, List.getElem_toArray, List.getElem_cons_succ, List.getElem_cons_zero]
            refine wpAnyH_take (i := 4) (oi := _) (v := ?_) rfl (by kernel_rfl) (by kernel_rfl) (by kernel_rfl) (fun _ _ _ h => h) (Or.inl ⟨by rfl, ?_⟩) (by assumption) ?_
            rotate_left
            · intro W hSw; (try dsimp only at hSw); go_simp; try with_reducible rfl
            try simp only [Act.put, List.setIfInBounds_toArray, List.set_cons_zero, List.set_cons_succ, List.getElem_toArray, List.getElem_cons_succ, List.getElem_cons_zero]
            refine wpAnyH_take (i := 5) (oi := _) (v := ?_) rfl (by kernel_rfl) (by kernel_rfl) (by kernel_rfl) (fun _ _ _ h => h) (Or.inl ⟨by rfl, ?_⟩) (by assumption) ?_
            rotate_left
            · intro W hSw; (try dsimp only at hSw); go_simp; try with_reducible rfl
            try simp only [Act.put, List.setIfInBounds_toArray, List.set_cons_zero, List.set_cons_succ, List.getElem_toArray, List.getElem_cons_succ, List.getElem_cons_zero]
            refine wpAnyH_take (i := 6) (oi := _) (v := ?_) rfl (by kernel_rfl) (by kernel_rfl) (by kernel_rfl) (fun _ _ _ h => h) (Or.inl ⟨by rfl, ?_⟩) (by assumption) ?_
            rotate_left
            · intro W hSw; (try dsimp only at hSw); go_simp; try with_reducible rfl
            try simp only [Act.put, List.setIfInBounds_toArray, List.set_cons_zero, List.set_cons_succ, List.getElem_toArray, List.getElem_cons_succ, List.getElem_cons_zero]
            refine wpAnyH_take (i := 7) (oi := _) (v := ?_) rfl (by kernel_rfl) (by kernel_rfl) (by kernel_rfl) (fun _ _ _ h => h) (Or.inl ⟨by rfl, ?_⟩) (by assumption) ?_
            rotate_left
            · intro W hSw; (try dsimp only at hSw); go_simp; try with_reducible rfl
            try simp only [Act.put, List.setIfInBounds_toArray, List.set_cons_zero, List.set_cons_succ, List.getElem_toArray, List.getElem_cons_succ, List.getElem_cons_zero]
            refine wpAnyH_take (i := 8) (oi := _) (v := ?_) rfl (by kernel_rfl) (by kernel_rfl) (by kernel_rfl) (fun _ _ _ h => h) (Or.inl ⟨by rfl, ?_⟩) (by assumption) ?_
            rotate_left
            · intro W hSw; (try dsimp only at hSw); go_simp; try with_reducible rfl
            try simp only [Act.put, List.setIfInBounds_toArray, List.set_cons_zero, List.set_cons_succ, List.getElem_toArray, List.getElem_cons_succ, List.getElem_cons_zero]
            refine wpAnyH_take (i := 9) (oi := _) (v := ?_) rfl (by kernel_rfl) (by kernel_rfl) (by kernel_rfl) (fun _ _ _ h => h) (Or.inl ⟨by rfl, ?_⟩) (by assumption) ?_
            rotate_left
            · intro W hSw; (try dsimp only at hSw); go_simp; try with_reducible rfl
            try simp only [Act.put, List.setIfInBounds_toArray, List.set_cons_zero, List.set_cons_succ, List.getElem_toArray, List.getElem_cons_succ, List.getElem_cons_zero]
            refine wpAnyH_take (i := 10) (oi := _) (v := ?_) rfl (by kernel_rfl) (by kernel_rfl) (by kernel_rfl) (fun _ _ _ h => h) (Or.inl ⟨by rfl, ?_⟩) (by assumption) ?_
            rotate_left
            · intro W hSw; (try dsimp only at hSw); go_simp; try with_reducible rfl
            try simp only [Act.put, List.setIfInBounds_toArray, List.set_cons_zero, List.set_cons_succ, List.getElem_toArray, List.getElem_cons_succ, List.getElem_cons_zero]
            refine wpAnyH_take (i := 11) (oi := _) (v := ?_) rfl (by kernel_rfl) (by kernel_rfl) (by kernel_rfl) (fun _ _ _ h => h) (Or.inl ⟨by rfl, ?_⟩) (by assumption) ?_
            rotate_left
            · intro W hSw; (try dsimp only at hSw); go_simp; try with_reducible rfl
            try simp only [Act.put, List.setIfInBounds_toArray, List.set_cons_zero, List.set_cons_succ, List.getElem_toArray, List.getElem_cons_succ, List.getElem_cons_zero]
            refine wpAnyH_take (i := 12) (oi := _) (v := ?_) rfl (by kernel_rfl) (by kernel_rfl) (by kernel_rfl) (fun _ _ _ h => h) (Or.inl ⟨by rfl, ?_⟩) (by assumption) ?_
            rotate_left
            · intro W hSw; (try dsimp only at hSw); go_simp; try with_reducible rfl
            try simp only [Act.put, List.setIfInBounds_toArray, List.set_cons_zero, List.set_cons_succ, List.getElem_toArray, List.getElem_cons_succ, List.getElem_cons_zero]
            refine wpAnyH_take (i := 13) (oi := _) (v := ?_) rfl (by kernel_rfl) (by kernel_rfl) (by kernel_rfl) (fun _ _ _ h => h) (Or.inl ⟨by rfl, ?_⟩) (by assumption) ?_
            rotate_left
            · intro W hSw; (try dsimp only at hSw); go_simp; try with_reducible rfl
            try simp only [Act.put, List.setIfInBounds_toArray, List.set_cons_zero, List.set_cons_succ, List.getElem_toArray, List.getElem_cons_succ, List.getElem_cons_zero]
            refine wpAnyH_take (i := 14) (oi := _) (v := ?_) rfl (by kernel_rfl) (by kernel_rfl) (by kernel_rfl) (fun _ _ _ h => h) (Or.inl ⟨by rfl, ?_⟩) (by assumption) ?_
            rotate_left
            · intro W hSw; (try dsimp only at hSw); go_simp; try with_reducible rfl
            try simp only [Act.put, List.setIfInBounds_toArray, List.set_cons_zero, List.set_cons_succ, List.getElem_toArray, List.getElem_cons_succ, List.getElem_cons_zero]
            refine wpAnyH_ready (rs := [15]) (by kernel_rfl) (by simp) ?_
            refine AllReadyH.cons (o := _) rfl (fun K hK => ?_) AllReadyH.nil
            rw [if_pos (by rfl)]
            refine wp_store_mid 24 _ _ rfl w.heap.size 0 (sgC ⟨n0, n1, n2, n3, d, g⟩).toArray rfl rfl (HV1.out.there (n := 6) rfl) (infoSgN ⟨n0, n1, n2, n3, d, g⟩) (sgC_one ⟨n0, n1, n2, n3, d, g⟩) ?_
            have hC2 := HCW.out _ (keeps_grown (grown_vs (w := v) (b := w.heap.size) (sgC ⟨n0, n1, n2, n3, d, g⟩)) (by omega))
            refine hK.out _ _ hC2 (fun hHeld => ?_)
            clear hK K
            try simp only [Act.put, List.getElem_toArray, List.getElem_cons_succ, List.getElem_cons_zero]
            refine wpAnyH_take (i := 16) (oi := _) (v := ?_) rfl (by kernel_rfl) (by kernel_rfl) (by kernel_rfl) (fun _ _ _ h => h) (Or.inl ⟨by rfl, ?_⟩) (by assumption) ?_
            rotate_left
            · intro W hSw; (try dsimp only at hSw); go_simp; try with_reducible rfl
            try simp only [Act.put, List.setIfInBounds_toArray, List.set_cons_zero, List.set_cons_succ, List.getElem_toArray, List.getElem_cons_succ, List.getElem_cons_zero]
            refine wpAnyH_done (by kernel_rfl) ?_ _
            refine NoPanic.normal ?_
            go_wp2_with fail
            refine bodyPost_ret (v := .tuple #[.agg (sgC ⟨n0, n1, n2, n3, d, g⟩).toArray, .int .i64 0]) ?_ rfl (ret_sgo_some HR.out (below_vs HB1.out (Nat.le_refl _) _))
            exact results_mid_slot Tryz.results87 _ _ w.heap.size (sgC ⟨n0, n1, n2, n3, d, g⟩) _ _ rfl rfl (HV1.out.sets (sgC ⟨n0, n1, n2, n3, d, g⟩) rfl).range Tryz.underlying24 rfl (infoSgN ⟨n0, n1, n2, n3, d, g⟩)
          · have HR : Hid (whole rdSg s.data.toList = none) := Lib.hid (by rw [HR2.out, if_neg (by rw [len_data]; exact hq)])
            have hq1 : ((k : Int) + (j : Int) + (m : Int) == (s.size : Int)) = false := by rw [beq_eq_false_iff_ne]; omega
            have hq2 : ((k : Int) + (j : Int) + (m : Int) != (s.size : Int)) = true := by rw [bne_iff_ne]; omega
            clear hq
            go_enter Tryz.func87, Tryz.ntmps87
            go_wp2_with fail
            refine (retN_len (HA.out _) HG.out HN.out).mono ?_
            rintro e w1 ⟨⟨A, c, rfl, hr⟩, hb⟩
            have HV1 := Lib.hid (HV0.out.below hb)
            have HB1 := Lib.hid (bon HB0.out hb)
            clear hb hr
            go_wp2_with fail
            refine (HS.out _).mono ?_
            rintro e w2 ⟨rfl, rfl⟩
            go_wp2_with fail
            refine (HS2.out _).mono ?_
            rintro e w2 ⟨rfl, rfl⟩
            go_wp2_with (refine wpList_store_mid rfl 24 _ _ rfl w.heap.size 0 (sgC sg0).toArray rfl rfl (HV1.out.there rfl) (infoSgN sg0) (sgC_one sg0) ?_)
            refine bodyPost_ret (v := .tuple #[.agg (sgC sg0).toArray, .int .i64 2]) ?_ rfl (ret_sgo_none HR.out (below_vs HB1.out (Nat.le_refl _) _))
            exact results_mid_slot Tryz.results87 _ _ w.heap.size (sgC sg0) _ _ rfl rfl (HV1.out.sets (sgC sg0) rfl).range Tryz.underlying24 rfl (infoSgN sg0)
    · have HR := Lib.hid (sg_ints_len hg hn)
      have hn1 : ((n.length : Int) == 4) = false := by rw [beq_eq_false_iff_ne]; omega
      have hn2 : ((n.length : Int) != 4) = true := by rw [bne_iff_ne]; omega
      clear hg hn hk
      go_enter Tryz.func87, Tryz.ntmps87
      go_wp2_with fail
      refine (retN_some (HA.out _) HG.out).mono ?_
      rintro e w1 ⟨⟨A, c, rfl, hr⟩, hb⟩
      have HV1 := Lib.hid (HV0.out.below hb)
      have HB1 := Lib.hid (bon HB0.out hb)
      clear hb hr
      go_wp2_with (refine wpList_store_mid rfl 24 _ _ rfl w.heap.size 0 (sgC sg0).toArray rfl rfl (HV1.out.there rfl) (infoSgN sg0) (sgC_one sg0) ?_)
      refine bodyPost_ret (v := .tuple #[.agg (sgC sg0).toArray, .int .i64 2]) ?_ rfl (ret_sgo_none HR.out (below_vs HB1.out (Nat.le_refl _) _))
      exact results_mid_slot Tryz.results87 _ _ w.heap.size (sgC sg0) _ _ rfl rfl (HV1.out.sets (sgC sg0) rfl).range Tryz.underlying24 rfl (infoSgN sg0)
end Go.Proofs.YtoehakekjlebdaaGreatDoor
/- The reference's text. -/
namespace Go.Proofs.YtoehakekjlebdaaGreatDoor
open Go.RowKit

/-- the rest's cells -/
def rcC (r : Rc) : List Value := [.string ⟨r.s.toArray⟩, .bool r.ok]
theorem rcC_one (r : Rc) : (rcC r).toArray.all (·.oneCell') = true := by simp [rcC, Value.oneCell']
theorem infoRc (r : Rc) : (Tryz.prog.info? 63).map (·.size) = some (rcC r).length := by
  have : (Tryz.prog.info? 63).map (·.size) = some 2 := by kernel_rfl
  exact this
theorem results_slot_mid {P : Program} {fn : Func} {p q : Tmp} {ty : TypeId} (h : fn.results = #[.tmp q, .cell p ty]) (tmps : Array Value) (w : World) (b : Nat) (cs : List Value) (d : TypeDesc) (v : Value)
    (hp : tmps.getD p undef = .pointer (some ⟨b, 0, none⟩)) (hq : tmps.getD q undef = v) (hc : w.rangeAt b 0 cs) (hu : P.underlying ty = some d) (hd : d.isRow = true) (hi : (P.info? ty).map (·.size) = some cs.length) :
    (results fn tmps).run P w = .ok (.tuple #[v, .agg cs.toArray]) w := by
  have hp' : tmps[p]?.getD undef = .pointer (some ⟨b, 0, none⟩) := by simpa using hp
  have hq' : tmps[q]?.getD undef = v := by simpa using hq
  simp [results, h, hp', hq', asAddr, run_loadVar_mid w b 0 ty cs d hc hu hd hi]
theorem results_mid2 {P : Program} {fn : Func} {p q : Tmp} {ty tz : TypeId} (h : fn.results = #[.cell p ty, .cell q tz]) (tmps : Array Value) (w : World) (b c : Nat) (cs ds : List Value) (d d' : TypeDesc)
    (hp : tmps.getD p undef = .pointer (some ⟨b, 0, none⟩)) (hq : tmps.getD q undef = .pointer (some ⟨c, 0, none⟩)) (hc : w.rangeAt b 0 cs) (hc' : w.rangeAt c 0 ds) (hu : P.underlying ty = some d) (hd : d.isRow = true) (hi : (P.info? ty).map (·.size) = some cs.length)
    (hu' : P.underlying tz = some d') (hd' : d'.isRow = true) (hi' : (P.info? tz).map (·.size) = some ds.length) :
    (results fn tmps).run P w = .ok (.tuple #[.agg cs.toArray, .agg ds.toArray]) w := by
  have hp' : tmps[p]?.getD undef = .pointer (some ⟨b, 0, none⟩) := by simpa using hp
  have hq' : tmps[q]?.getD undef = .pointer (some ⟨c, 0, none⟩) := by simpa using hq
  simp [results, h, hp', hq', asAddr, run_loadVar_mid w b 0 ty cs d hc hu hd hi, run_loadVar_mid w c 0 tz ds d' hc' hu' hd' hi']
/-- what comes back with a rest -/
def RetRT (r : List UInt8 × Rc) (w : World) (e : Ending) (w' : World) : Prop := e = .returned (.tuple #[.string ⟨r.1.toArray⟩, .agg (rcC r.2).toArray]) ∧ Below w.heap.size w w'
def RetRTs (r : List (List UInt8) × Rc) (w : World) (e : Ending) (w' : World) : Prop :=
  ∃ A c, e = .returned (.tuple #[.slice A r.1.length c, .agg (rcC r.2).toArray]) ∧ Stays w.heap.size (fun w => Rd w 1 A r.1.length (strC r.1)) w' ∧ Below w.heap.size w w'
def RetRI (r : List Int × Rc) (w : World) (e : Ending) (w' : World) : Prop :=
  ∃ A c, e = .returned (.tuple #[.slice A r.1.length c, .agg (rcC r.2).toArray]) ∧ Stays w.heap.size (fun w => Rd w 1 A r.1.length (intC r.1)) w' ∧ Below w.heap.size w w'
theorem ret_rt {r r' : List UInt8 × Rc} {w w' : World} (h : r = r') (k : Below w.heap.size w w') : RetRT r w (.returned (.tuple #[.string ⟨r'.1.toArray⟩, .agg (rcC r'.2).toArray])) w' := by subst h; exact ⟨rfl, k⟩
theorem ret_rts {r r' : List (List UInt8) × Rc} {w w' : World} {A : Option Addr} {n c : Nat} (h : r = r') (hn : n = r'.1.length) (hr : Stays w.heap.size (fun w => Rd w 1 A r'.1.length (strC r'.1)) w') (k : Below w.heap.size w w') : RetRTs r w (.returned (.tuple #[.slice A n c, .agg (rcC r'.2).toArray])) w' := by subst h hn; exact ⟨A, c, rfl, hr, k⟩
theorem ret_ri {r r' : List Int × Rc} {w w' : World} {A : Option Addr} {n c : Nat} (h : r = r') (hn : n = r'.1.length) (hr : Stays w.heap.size (fun w => Rd w 1 A r'.1.length (intC r'.1)) w') (k : Below w.heap.size w w') : RetRI r w (.returned (.tuple #[.slice A n c, .agg (rcC r'.2).toArray])) w' := by subst h hn; exact ⟨A, c, rfl, hr, k⟩
theorem rk_no {α : Type} (p : Pr α) (d : α) (s : List UInt8) : rk p d ⟨s, false⟩ = (d, Rc.fail) := rfl
theorem rk_none {α : Type} {p : Pr α} (d : α) {s : List UInt8} (h : p s = none) (b : Bool) : rk p d ⟨s, b⟩ = (d, Rc.fail) := by
  cases b
  · rfl
  · unfold rk; simp only [if_true, h]
theorem rk_some {α : Type} {p : Pr α} (d : α) {s r : List UInt8} {x : α} (h : p s = some (x, r)) : rk p d ⟨s, true⟩ = (x, ⟨r, true⟩) := by
  unfold rk; simp only [if_true, h]
set_option maxRecDepth 100000 in
set_option maxHeartbeats 1000000 in
theorem refText_any (r : Rc) (w : World) (hl : r.s.length ≤ 268435456) :
    Calls Tryz.prog 37 #[.agg #[.string ⟨r.s.toArray⟩, .bool r.ok]] w (RetRT (rkText r) w) := by
  obtain ⟨s, b⟩ := r
  simp only at hl
  have hlen : (ByteArray.mk s.toArray).size ≤ 268435456 := by rw [size_mk]; exact hl
  have HR0 := Lib.hid ((Vr.new w (rcC ⟨s, b⟩) 63).below (below_new (w.alloc (.cells (rcC ⟨s, b⟩).toArray 63)) (.cells (rcC Rc.fail).toArray 63)))
  have HQ0 := Lib.hid (Vr.new' (w.alloc (.cells (rcC ⟨s, b⟩).toArray 63)) (rcC Rc.fail) 63 (b := w.heap.size + 1) (by simp))
  have HB0 := Lib.hid (bon (below_new w (.cells (rcC ⟨s, b⟩).toArray 63)) (below_new (w.alloc (.cells (rcC ⟨s, b⟩).toArray 63)) (.cells (rcC Rc.fail).toArray 63)))
  have HZ0 : Hid (((w.alloc (.cells (rcC ⟨s, b⟩).toArray 63)).alloc (.cells (rcC Rc.fail).toArray 63)).heap.size = w.heap.size + 2) := Lib.hid (by simp)
  cases hg : getStr s with
  | none =>
    have HS : Hid (rkText ⟨s, b⟩ = ([], Rc.fail)) := Lib.hid (rk_none [] (by unfold rdText off; rw [hg]) b)
    have HG := Lib.hid (fun W => (show _ from (rgets_none ⟨s.toArray⟩ W (Nat.le_trans hlen (by decide)) (by simpa using hg))))
    clear hg
    go_enter Tryz.func37, Tryz.ntmps37
    go_wp2_with fail
    refine (HG.out _).mono ?_
    rintro e w1 ⟨rfl, c, hc, rfl⟩
    have hc1 : (c == 0) = false := by simpa using hc
    have hc2 : (c != 0) = true := by simpa using hc
    have HR1 := HR0
    have HQ1 := HQ0
    have HB1 := HB0
    cases b
    all_goals
      have HBe := Lib.hid (below_gr HB1.out (grown_vs (b := w.heap.size + 1) (rcC Rc.fail)) (by omega))
      have HQe := Lib.hid (HQ1.out.sets (rcC Rc.fail) rfl)
      go_wp2_with (refine wpList_store_mid rfl 63 _ _ rfl (w.heap.size + 1) 0 (rcC Rc.fail).toArray rfl rfl (HQ1.out.there (n := 2) rfl) (infoRc Rc.fail) (rcC_one Rc.fail) ?_)
      refine bodyPost_ret (v := .tuple #[.string ⟨#[]⟩, .agg (rcC Rc.fail).toArray]) ?_ rfl (ret_rt (r' := ([], Rc.fail)) HS.out HBe.out)
      exact results_slot_mid Tryz.results37 _ _ (w.heap.size + 1) (rcC Rc.fail) _ _ rfl rfl HQe.out.range Tryz.underlying63 rfl (infoRc Rc.fail)
  | some y =>
    obtain ⟨x, k⟩ := y
    have hk : k ≤ s.length := (getStr_le hg).2.1
    have HG := Lib.hid (fun W => (show _ from (rgets_some ⟨s.toArray⟩ W (Nat.le_trans hlen (by decide)) x k (by simpa using hg))))
    have HP : Hid (rdText s = some (x, s.drop k)) := Lib.hid (by unfold rdText off; rw [hg])
    have HX := Lib.hid (ext_list s k hk)
    clear hg
    cases b with
    | false =>
      have HS : Hid (rkText ⟨s, false⟩ = ([], Rc.fail)) := Lib.hid rfl
      go_enter Tryz.func37, Tryz.ntmps37
      go_wp2_with fail
      refine (HG.out _).mono ?_
      rintro e w1 ⟨rfl, rfl⟩
      have HR1 := HR0
      have HQ1 := HQ0
      have HB1 := HB0
      have HBe := Lib.hid (below_gr HB1.out (grown_vs (b := w.heap.size + 1) (rcC Rc.fail)) (by omega))
      have HQe := Lib.hid (HQ1.out.sets (rcC Rc.fail) rfl)
      go_wp2_with (refine wpList_store_mid rfl 63 _ _ rfl (w.heap.size + 1) 0 (rcC Rc.fail).toArray rfl rfl (HQ1.out.there (n := 2) rfl) (infoRc Rc.fail) (rcC_one Rc.fail) ?_)
      refine bodyPost_ret (v := .tuple #[.string ⟨#[]⟩, .agg (rcC Rc.fail).toArray]) ?_ rfl (ret_rt (r' := ([], Rc.fail)) HS.out HBe.out)
      exact results_slot_mid Tryz.results37 _ _ (w.heap.size + 1) (rcC Rc.fail) _ _ rfl rfl HQe.out.range Tryz.underlying63 rfl (infoRc Rc.fail)
    | true =>
      have HS : Hid (rkText ⟨s, true⟩ = (x, ⟨s.drop k, true⟩)) := Lib.hid (rk_some [] HP.out)
      go_enter Tryz.func37, Tryz.ntmps37
      go_wp2_with fail
      refine (HG.out _).mono ?_
      rintro e w1 ⟨rfl, rfl⟩
      have HR1 := HR0
      have HQ1 := HQ0
      have HB1 := HB0
      go_wp2_with fail
      have HR2 := Lib.hid (HR1.out.below (Below.refl _ _).drew)
      have HQ2 := Lib.hid (HQ1.out.below (Below.refl _ _).drew)
      have HB2 := Lib.hid (HB1.out.drew)
      have i0 : (0 : Int) ≤ (k : Int) := by omega
      have i1 : (k : Int) ≤ (s.length : Int) := by omega
      refine wp_region_noPanic ?_
      generalize hv : ((w.alloc (.cells (rcC ⟨s, true⟩).toArray 63)).alloc (.cells (rcC Rc.fail).toArray 63)).drew = v at HR2 HQ2 HB2
      have hC := HR2.out.cells 0 _ rfl
      refine wp_region_held_drew (S := fun W => W.cell? ⟨w.heap.size, 0, none⟩ = some (.string ⟨s.toArray⟩)) (by kernel_rfl) (by first | (rw [hv]; exact hC) | (have hv2 := hv; simp only [rcC, Rc.fail] at hv2; rw [hv2]; exact hC)) (fun hHeld => ?_)
      have hv2 := hv
      simp only [rcC, Rc.fail] at hv2
      rw [hv2] at hHeld ⊢
      clear hv hv2
      refine wpAnyH_take (i := 0) (oi := _) (v := ?_) rfl (by kernel_rfl) (by kernel_rfl) (by kernel_rfl) (fun _ _ _ h => h) (Or.inl ⟨by rfl, ?_⟩) (by assumption) ?_
      rotate_left
      · intro W hSw; (try dsimp only at hSw); go_simp; try with_reducible rfl
      try simp only [Act.put, List.setIfInBounds_toArray, List.set_cons_zero, List.set_cons_succ, List.getElem_toArray, List.getElem_cons_zero]
      refine wpAnyH_take (i := 1) (oi := _) (v := ?_) rfl (by kernel_rfl) (by kernel_rfl) (by kernel_rfl) (fun _ _ _ h => h) (Or.inl ⟨by rfl, ?_⟩) (by assumption) ?_
      rotate_left
      · intro W hSw; (try dsimp only at hSw); go_simp; try with_reducible rfl
      try simp only [Act.put, List.setIfInBounds_toArray, List.set_cons_zero, List.set_cons_succ, List.getElem_toArray, List.getElem_cons_succ, List.getElem_cons_zero]
      refine wpAnyH_take (i := 2) (oi := _) (v := ?_) rfl (by kernel_rfl) (by kernel_rfl) (by kernel_rfl) (fun _ _ _ h => h) (Or.inl ⟨by rfl, ?_⟩) (by assumption) ?_
      rotate_left
      · intro W hSw; (try dsimp only at hSw); go_simp; try with_reducible rfl
      try simp only [Act.put, List.setIfInBounds_toArray, List.set_cons_zero, List.set_cons_succ, List.getElem_toArray, List.getElem_cons_succ, List.getElem_cons_zero]
      refine wpAnyH_take (i := 3) (oi := _) (v := ?_) rfl (by kernel_rfl) (by kernel_rfl) (by kernel_rfl) (fun _ _ _ h => h) (Or.inl ⟨by rfl, ?_⟩) (by assumption) ?_
      rotate_left
      · intro W hSw; (try dsimp only at hSw); go_simp; try with_reducible rfl
      try simp only [Act.put, List.setIfInBounds_toArray, List.set_cons_zero, List.set_cons_succ, List.getElem_toArray, List.getElem_cons_succ, List.getElem_cons_zero]
      refine wpAnyH_take (i := 4) (oi := _) (v := ?_) rfl (by kernel_rfl) (by kernel_rfl) (by kernel_rfl) (fun _ _ _ h => h) (Or.inl ⟨by rfl, ?_⟩) (by assumption) ?_
      rotate_left
      · intro W hSw; (try dsimp only at hSw); go_simp; try with_reducible rfl
      try simp only [Act.put, List.setIfInBounds_toArray, List.set_cons_zero, List.set_cons_succ, List.getElem_toArray, List.getElem_cons_succ, List.getElem_cons_zero]
      refine wpAnyH_take (i := 5) (oi := _) (v := ?_) rfl (by kernel_rfl) (by kernel_rfl) (by kernel_rfl) (fun _ _ _ h => h) (Or.inl ⟨by rfl, ?_⟩) (by assumption) ?_
      rotate_left
      · intro W hSw; (try dsimp only at hSw); go_simp; try with_reducible rfl
      try simp only [Act.put, List.setIfInBounds_toArray, List.set_cons_zero, List.set_cons_succ, List.getElem_toArray, List.getElem_cons_succ, List.getElem_cons_zero]
      refine wpAnyH_take (i := 6) (oi := _) (v := ?_) rfl (by kernel_rfl) (by kernel_rfl) (by kernel_rfl) (fun _ _ _ h => h) (Or.inl ⟨by rfl, ?_⟩) (by assumption) ?_
      rotate_left
      · intro W hSw; (try dsimp only at hSw); go_simp; try with_reducible rfl
      try simp only [Act.put, List.setIfInBounds_toArray, List.set_cons_zero, List.set_cons_succ, List.getElem_toArray, List.getElem_cons_succ, List.getElem_cons_zero]
      refine wpAnyH_ready (rs := [7]) (by kernel_rfl) (by simp) ?_
      refine AllReadyH.cons (o := _) rfl (fun K hK => ?_) AllReadyH.nil
      rw [if_pos (by rfl)]
      refine wp_store_mid 63 _ _ rfl (w.heap.size + 1) 0 (rcC ⟨s.drop k, true⟩).toArray rfl (by show _ = Value.agg #[.string ⟨(s.drop k).toArray⟩, .bool true]; rw [← HX.out]; rfl) (HQ2.out.there (n := 2) rfl) (infoRc ⟨s.drop k, true⟩) (rcC_one ⟨s.drop k, true⟩) ?_
      have hC2 := (HR2.out.grown (grown_vs (b := w.heap.size + 1) (rcC ⟨s.drop k, true⟩)) (by omega)).cells 0 _ rfl
      have HBe := Lib.hid (below_gr HB2.out (grown_vs (b := w.heap.size + 1) (rcC ⟨s.drop k, true⟩)) (by omega))
      have HQe := Lib.hid (HQ2.out.sets (rcC ⟨s.drop k, true⟩) rfl)
      refine hK.out _ _ hC2 (fun hHeld => ?_)
      clear hK K
      try simp only [Act.put, List.getElem_toArray, List.getElem_cons_succ, List.getElem_cons_zero]
      refine wpAnyH_done (by kernel_rfl) ?_ _
      refine NoPanic.normal ?_
      go_wp2_with fail
      refine bodyPost_ret (v := .tuple #[.string ⟨x.toArray⟩, .agg (rcC ⟨s.drop k, true⟩).toArray]) ?_ rfl (ret_rt (r' := (x, ⟨s.drop k, true⟩)) HS.out HBe.out)
      exact results_slot_mid Tryz.results37 _ _ (w.heap.size + 1) (rcC ⟨s.drop k, true⟩) _ _ rfl rfl HQe.out.range Tryz.underlying63 rfl (infoRc ⟨s.drop k, true⟩)
set_option maxRecDepth 100000 in
set_option maxHeartbeats 1000000 in
theorem refTexts_any (r : Rc) (w : World) (hl : r.s.length ≤ 268435456) :
    Calls Tryz.prog 39 #[.agg #[.string ⟨r.s.toArray⟩, .bool r.ok]] w (RetRTs (rkTexts r) w) := by
  obtain ⟨s, b⟩ := r
  simp only at hl
  have hlen : (ByteArray.mk s.toArray).size ≤ 268435456 := by rw [size_mk]; exact hl
  have HR0 := Lib.hid ((Vr.new w (rcC ⟨s, b⟩) 63).below (below_new (w.alloc (.cells (rcC ⟨s, b⟩).toArray 63)) (.cells (rcC Rc.fail).toArray 63)))
  have HQ0 := Lib.hid (Vr.new' (w.alloc (.cells (rcC ⟨s, b⟩).toArray 63)) (rcC Rc.fail) 63 (b := w.heap.size + 1) (by simp))
  have HB0 := Lib.hid (bon (below_new w (.cells (rcC ⟨s, b⟩).toArray 63)) (below_new (w.alloc (.cells (rcC ⟨s, b⟩).toArray 63)) (.cells (rcC Rc.fail).toArray 63)))
  have HZ0 : Hid (((w.alloc (.cells (rcC ⟨s, b⟩).toArray 63)).alloc (.cells (rcC Rc.fail).toArray 63)).heap.size = w.heap.size + 2) := Lib.hid (by simp)
  cases hg : getList s with
  | none =>
    have HS : Hid (rkTexts ⟨s, b⟩ = ([], Rc.fail)) := Lib.hid (rk_none [] (by unfold rdTexts off; rw [hg]) b)
    have HG := Lib.hid (fun W => (show _ from (retT_none (refGetList_any ⟨s.toArray⟩ W (Nat.le_trans hlen (by decide))) (by simpa using hg))))
    clear hg
    go_enter Tryz.func39, Tryz.ntmps39
    go_wp2_with fail
    refine (HG.out _).mono ?_
    rintro e w1 ⟨⟨c, hc, rfl⟩, hb⟩
    have hc1 : (c == 0) = false := by simpa using hc
    have hc2 : (c != 0) = true := by simpa using hc
    have HR1 := Lib.hid (HR0.out.below hb)
    have HQ1 := Lib.hid (HQ0.out.below hb)
    have HB1 := Lib.hid (bon HB0.out hb)
    clear hb
    have c0 := HR1.out.cells 0 _ rfl
    have c1 := HR1.out.cells 1 _ rfl
    cases b
    all_goals
      have HBe := Lib.hid (below_gr HB1.out (grown_vs (b := w.heap.size + 1) (rcC Rc.fail)) (by omega))
      have HQe := Lib.hid (HQ1.out.sets (rcC Rc.fail) rfl)
      go_wp2_with (refine wpList_store_mid rfl 63 _ _ rfl (w.heap.size + 1) 0 (rcC Rc.fail).toArray rfl rfl (HQ1.out.there (n := 2) rfl) (infoRc Rc.fail) (rcC_one Rc.fail) ?_)
      refine bodyPost_ret (v := .tuple #[.slice none 0 0, .agg (rcC Rc.fail).toArray]) ?_ rfl (ret_rts (r' := ([], Rc.fail)) HS.out rfl stays_nil HBe.out)
      exact results_slot_mid Tryz.results39 _ _ (w.heap.size + 1) (rcC Rc.fail) _ _ rfl rfl HQe.out.range Tryz.underlying63 rfl (infoRc Rc.fail)
  | some y =>
    obtain ⟨x, k⟩ := y
    have hk : k ≤ s.length := getList_leW hg
    have HG := Lib.hid (fun W => (show _ from (retT_some (refGetList_any ⟨s.toArray⟩ W (Nat.le_trans hlen (by decide))) (by simpa using hg))))
    have HP : Hid (rdTexts s = some (x, s.drop k)) := Lib.hid (by unfold rdTexts off; rw [hg])
    have HX := Lib.hid (ext_list s k hk)
    clear hg
    cases b with
    | false =>
      have HS : Hid (rkTexts ⟨s, false⟩ = ([], Rc.fail)) := Lib.hid rfl
      go_enter Tryz.func39, Tryz.ntmps39
      go_wp2_with fail
      refine (HG.out _).mono ?_
      rintro e w1 ⟨⟨A, c, rfl, hr⟩, hb⟩
      have HR1 := Lib.hid (HR0.out.below hb)
      have HQ1 := Lib.hid (HQ0.out.below hb)
      have HB1 := Lib.hid (bon HB0.out hb)
      clear hb hr
      have c0 := HR1.out.cells 0 _ rfl
      have c1 := HR1.out.cells 1 _ rfl
      have HBe := Lib.hid (below_gr HB1.out (grown_vs (b := w.heap.size + 1) (rcC Rc.fail)) (by omega))
      have HQe := Lib.hid (HQ1.out.sets (rcC Rc.fail) rfl)
      go_wp2_with (refine wpList_store_mid rfl 63 _ _ rfl (w.heap.size + 1) 0 (rcC Rc.fail).toArray rfl rfl (HQ1.out.there (n := 2) rfl) (infoRc Rc.fail) (rcC_one Rc.fail) ?_)
      refine bodyPost_ret (v := .tuple #[.slice none 0 0, .agg (rcC Rc.fail).toArray]) ?_ rfl (ret_rts (r' := ([], Rc.fail)) HS.out rfl stays_nil HBe.out)
      exact results_slot_mid Tryz.results39 _ _ (w.heap.size + 1) (rcC Rc.fail) _ _ rfl rfl HQe.out.range Tryz.underlying63 rfl (infoRc Rc.fail)
    | true =>
      have HS : Hid (rkTexts ⟨s, true⟩ = (x, ⟨s.drop k, true⟩)) := Lib.hid (rk_some [] HP.out)
      go_enter Tryz.func39, Tryz.ntmps39
      go_wp2_with fail
      refine (HG.out _).mono ?_
      rintro e w1 ⟨⟨A, c, rfl, hr⟩, hb⟩
      have HR1 := Lib.hid (HR0.out.below hb)
      have HQ1 := Lib.hid (HQ0.out.below hb)
      have HB1 := Lib.hid (bon HB0.out hb)
      have HRow0 := Lib.hid ((stays_row (b := w.heap.size + 2) hr (by simp)).on (keeps_below _ (Below.refl _ _).drew))
      clear hb hr
      have c0 := HR1.out.cells 0 _ rfl
      have c1 := HR1.out.cells 1 _ rfl
      go_wp2_with fail
      have HR2 := Lib.hid (HR1.out.below (Below.refl _ _).drew)
      have HQ2 := Lib.hid (HQ1.out.below (Below.refl _ _).drew)
      have HB2 := Lib.hid (HB1.out.drew)
      have i0 : (0 : Int) ≤ (k : Int) := by omega
      have i1 : (k : Int) ≤ (s.length : Int) := by omega
      refine wp_region_noPanic ?_
      generalize hv : w1.drew = v at HR2 HQ2 HB2 HRow0
      have hC := HR2.out.cells 0 _ rfl
      refine wp_region_held_drew (S := fun W => W.cell? ⟨w.heap.size, 0, none⟩ = some (.string ⟨s.toArray⟩)) (by kernel_rfl) (by first | (rw [hv]; exact hC) | (have hv2 := hv; simp only [rcC, Rc.fail] at hv2; rw [hv2]; exact hC)) (fun hHeld => ?_)
      rw [hv] at hHeld ⊢
      clear hv
      refine wpAnyH_take (i := 0) (oi := _) (v := ?_) rfl (by kernel_rfl) (by kernel_rfl) (by kernel_rfl) (fun _ _ _ h => h) (Or.inl ⟨by rfl, ?_⟩) (by assumption) ?_
      rotate_left
      · intro W hSw; (try dsimp only at hSw); go_simp; try with_reducible rfl
      try simp only [Act.put, List.setIfInBounds_toArray, List.set_cons_zero, List.set_cons_succ, List.getElem_toArray, List.getElem_cons_zero]
      refine wpAnyH_take (i := 1) (oi := _) (v := ?_) rfl (by kernel_rfl) (by kernel_rfl) (by kernel_rfl) (fun _ _ _ h => h) (Or.inl ⟨by rfl, ?_⟩) (by assumption) ?_
      rotate_left
      · intro W hSw; (try dsimp only at hSw); go_simp; try with_reducible rfl
      try simp only [Act.put, List.setIfInBounds_toArray, List.set_cons_zero, List.set_cons_succ, List.getElem_toArray, List.getElem_cons_succ, List.getElem_cons_zero]
      refine wpAnyH_take (i := 2) (oi := _) (v := ?_) rfl (by kernel_rfl) (by kernel_rfl) (by kernel_rfl) (fun _ _ _ h => h) (Or.inl ⟨by rfl, ?_⟩) (by assumption) ?_
      rotate_left
      · intro W hSw; (try dsimp only at hSw); go_simp; try with_reducible rfl
      try simp only [Act.put, List.setIfInBounds_toArray, List.set_cons_zero, List.set_cons_succ, List.getElem_toArray, List.getElem_cons_succ, List.getElem_cons_zero]
      refine wpAnyH_take (i := 3) (oi := _) (v := ?_) rfl (by kernel_rfl) (by kernel_rfl) (by kernel_rfl) (fun _ _ _ h => h) (Or.inl ⟨by rfl, ?_⟩) (by assumption) ?_
      rotate_left
      · intro W hSw; (try dsimp only at hSw); go_simp; try with_reducible rfl
      try simp only [Act.put, List.setIfInBounds_toArray, List.set_cons_zero, List.set_cons_succ, List.getElem_toArray, List.getElem_cons_succ, List.getElem_cons_zero]
      refine wpAnyH_take (i := 4) (oi := _) (v := ?_) rfl (by kernel_rfl) (by kernel_rfl) (by kernel_rfl) (fun _ _ _ h => h) (Or.inl ⟨by rfl, ?_⟩) (by assumption) ?_
      rotate_left
      · intro W hSw; (try dsimp only at hSw); go_simp; try with_reducible rfl
      try simp only [Act.put, List.setIfInBounds_toArray, List.set_cons_zero, List.set_cons_succ, List.getElem_toArray, List.getElem_cons_succ, List.getElem_cons_zero]
      refine wpAnyH_take (i := 5) (oi := _) (v := ?_) rfl (by kernel_rfl) (by kernel_rfl) (by kernel_rfl) (fun _ _ _ h => h) (Or.inl ⟨by rfl, ?_⟩) (by assumption) ?_
      rotate_left
      · intro W hSw; (try dsimp only at hSw); go_simp; try with_reducible rfl
      try simp only [Act.put, List.setIfInBounds_toArray, List.set_cons_zero, List.set_cons_succ, List.getElem_toArray, List.getElem_cons_succ, List.getElem_cons_zero]
      refine wpAnyH_take (i := 6) (oi := _) (v := ?_) rfl (by kernel_rfl) (by kernel_rfl) (by kernel_rfl) (fun _ _ _ h => h) (Or.inl ⟨by rfl, ?_⟩) (by assumption) ?_
      rotate_left
      · intro W hSw; (try dsimp only at hSw); go_simp; try with_reducible rfl
      try simp only [Act.put, List.setIfInBounds_toArray, List.set_cons_zero, List.set_cons_succ, List.getElem_toArray, List.getElem_cons_succ, List.getElem_cons_zero]
      refine wpAnyH_ready (rs := [7]) (by kernel_rfl) (by simp) ?_
      refine AllReadyH.cons (o := _) rfl (fun K hK => ?_) AllReadyH.nil
      rw [if_pos (by rfl)]
      refine wp_store_mid 63 _ _ rfl (w.heap.size + 1) 0 (rcC ⟨s.drop k, true⟩).toArray rfl (by show _ = Value.agg #[.string ⟨(s.drop k).toArray⟩, .bool true]; rw [← HX.out]; rfl) (HQ2.out.there (n := 2) rfl) (infoRc ⟨s.drop k, true⟩) (rcC_one ⟨s.drop k, true⟩) ?_
      have hC2 := (HR2.out.grown (grown_vs (b := w.heap.size + 1) (rcC ⟨s.drop k, true⟩)) (by omega)).cells 0 _ rfl
      have HBe := Lib.hid (below_gr HB2.out (grown_vs (b := w.heap.size + 1) (rcC ⟨s.drop k, true⟩)) (by omega))
      have HQe := Lib.hid (HQ2.out.sets (rcC ⟨s.drop k, true⟩) rfl)
      have HRow := Lib.hid (HRow0.out)
      refine hK.out _ _ hC2 (fun hHeld => ?_)
      clear hK K
      try simp only [Act.put, List.getElem_toArray, List.getElem_cons_succ, List.getElem_cons_zero]
      refine wpAnyH_done (by kernel_rfl) ?_ _
      refine NoPanic.normal ?_
      go_wp2_with fail
      refine bodyPost_ret (v := .tuple #[.slice A x.length c, .agg (rcC ⟨s.drop k, true⟩).toArray]) ?_ rfl (ret_rts (r' := (x, ⟨s.drop k, true⟩)) HS.out rfl ((HRow.out.on (keeps_grown (grown_vs (b := w.heap.size + 1) (rcC ⟨s.drop k, true⟩)) (by omega))).low (by omega)) HBe.out)
      exact results_slot_mid Tryz.results39 _ _ (w.heap.size + 1) (rcC ⟨s.drop k, true⟩) _ _ rfl rfl HQe.out.range Tryz.underlying63 rfl (infoRc ⟨s.drop k, true⟩)
end Go.Proofs.YtoehakekjlebdaaGreatDoor
/- The reference's ints. -/
namespace Go.Proofs.YtoehakekjlebdaaGreatDoor
open Go.RowKit

set_option maxRecDepth 100000 in
set_option maxHeartbeats 1000000 in
theorem refInts1_any (r : Rc) (w : World) (hl : r.s.length ≤ 268435456) :
    Calls Tryz.prog 36 #[.agg #[.string ⟨r.s.toArray⟩, .bool r.ok], .int .i64 1] w (RetRI (rkInts 1 r) w) := by
  obtain ⟨s, b⟩ := r
  simp only at hl
  have hlen : (ByteArray.mk s.toArray).size ≤ 268435456 := by rw [size_mk]; exact hl
  have HR0 := Lib.hid ((Vr.new w (rcC ⟨s, b⟩) 63).below (below_new (w.alloc (.cells (rcC ⟨s, b⟩).toArray 63)) (.cells (rcC Rc.fail).toArray 63)))
  have HQ0 := Lib.hid (Vr.new' (w.alloc (.cells (rcC ⟨s, b⟩).toArray 63)) (rcC Rc.fail) 63 (b := w.heap.size + 1) (by simp))
  have HB0 := Lib.hid (bon (below_new w (.cells (rcC ⟨s, b⟩).toArray 63)) (below_new (w.alloc (.cells (rcC ⟨s, b⟩).toArray 63)) (.cells (rcC Rc.fail).toArray 63)))
  have HA : Hid (∀ W, Calls Tryz.prog 85 #[.string ⟨s.toArray⟩] W (RetN s W)) := Lib.hid (fun W => by have := refGetInts_any ⟨s.toArray⟩ W (Nat.le_trans hlen (by decide)); simpa using this)
  cases hg : getInts s with
  | none =>
    have HS : Hid (rkInts 1 ⟨s, b⟩ = (List.replicate 1 0, Rc.fail)) := Lib.hid (rk_none _ (by unfold rdInts off; rw [hg]) b)
    have HG : Hid (getInts s = none) := Lib.hid hg
    clear hg
    go_enter Tryz.func36, Tryz.ntmps36
    go_wp2_with fail
    refine (retN_none (HA.out _) HG.out).mono ?_
    rintro e w1 ⟨⟨c, hc, rfl⟩, hb⟩
    have hc1 : (c == 0) = false := by simpa using hc
    have hc2 : (c != 0) = true := by simpa using hc
    have HR1 := Lib.hid (HR0.out.below hb)
    have HQ1 := Lib.hid (HQ0.out.below hb)
    have HB1 := Lib.hid (bon HB0.out hb)
    have hz1 : w.heap.size + 2 ≤ w1.heap.size := by have := hb.size; simpa using this
    have c0 := HR1.out.cells 0 _ rfl
    have c1 := HR1.out.cells 1 _ rfl
    have hmk := mk1
    clear hb
    cases b
    all_goals
      have HQ2 := Lib.hid (HQ1.out.below (below_new w1 (.cells (intC (List.replicate 1 0)).toArray 3)))
      have HB2 := Lib.hid (bon HB1.out (below_new w1 (.cells (intC (List.replicate 1 0)).toArray 3)))
      have HRow := Lib.hid (stays_new (b := w.heap.size + 2) (k := 1) (n := 1) (cs := intC (List.replicate 1 0)) (T := 3) (w := w1) rfl hz1)
      have HBe := Lib.hid (below_gr HB2.out (grown_vs (b := w.heap.size + 1) (rcC Rc.fail)) (by omega))
      have HQe := Lib.hid (HQ2.out.sets (rcC Rc.fail) rfl)
      have HRe := Lib.hid ((HRow.out.on (keeps_grown (grown_vs (b := w.heap.size + 1) (rcC Rc.fail)) (by omega))).low (b' := w.heap.size) (by omega))
      go_wp2_with (refine wpList_store_mid rfl 63 _ _ rfl (w.heap.size + 1) 0 (rcC Rc.fail).toArray rfl rfl (HQ2.out.there (n := 2) rfl) (infoRc Rc.fail) (rcC_one Rc.fail) ?_)
      refine bodyPost_ret (v := .tuple #[.slice (some ⟨w1.heap.size, 0, none⟩) 1 1, .agg (rcC Rc.fail).toArray]) ?_ rfl (ret_ri (r' := (List.replicate 1 0, Rc.fail)) HS.out rfl HRe.out HBe.out)
      exact results_slot_mid Tryz.results36 _ _ (w.heap.size + 1) (rcC Rc.fail) _ _ rfl rfl HQe.out.range Tryz.underlying63 rfl (infoRc Rc.fail)
  | some y =>
    obtain ⟨x, k⟩ := y
    have hk : k ≤ s.length := getInts_leW hg
    have HG : Hid (getInts s = some (x, k)) := Lib.hid hg
    by_cases hn : x.length = 1
    · have HP : Hid (rdInts 1 s = some (x, s.drop k)) := Lib.hid (by unfold rdInts off; rw [hg]; simp only [if_pos hn])
      have HX := Lib.hid (ext_list s k hk)
      have HN := Lib.hid hn
      clear hg hn
      cases b with
      | false =>
        have HS : Hid (rkInts 1 ⟨s, false⟩ = (List.replicate 1 0, Rc.fail)) := Lib.hid rfl
        go_enter Tryz.func36, Tryz.ntmps36
        go_wp2_with fail
        refine (retN_len (HA.out _) HG.out HN.out).mono ?_
        rintro e w1 ⟨⟨A, c, rfl, hr⟩, hb⟩
        have HR1 := Lib.hid (HR0.out.below hb)
        have HQ1 := Lib.hid (HQ0.out.below hb)
        have HB1 := Lib.hid (bon HB0.out hb)
        have hz1 : w.heap.size + 2 ≤ w1.heap.size := by have := hb.size; simpa using this
        have c0 := HR1.out.cells 0 _ rfl
        have c1 := HR1.out.cells 1 _ rfl
        have hmk := mk1
        clear hb hr
        have HQ2 := Lib.hid (HQ1.out.below (below_new w1 (.cells (intC (List.replicate 1 0)).toArray 3)))
        have HB2 := Lib.hid (bon HB1.out (below_new w1 (.cells (intC (List.replicate 1 0)).toArray 3)))
        have HRow := Lib.hid (stays_new (b := w.heap.size + 2) (k := 1) (n := 1) (cs := intC (List.replicate 1 0)) (T := 3) (w := w1) rfl hz1)
        have HBe := Lib.hid (below_gr HB2.out (grown_vs (b := w.heap.size + 1) (rcC Rc.fail)) (by omega))
        have HQe := Lib.hid (HQ2.out.sets (rcC Rc.fail) rfl)
        have HRe := Lib.hid ((HRow.out.on (keeps_grown (grown_vs (b := w.heap.size + 1) (rcC Rc.fail)) (by omega))).low (b' := w.heap.size) (by omega))
        go_wp2_with (refine wpList_store_mid rfl 63 _ _ rfl (w.heap.size + 1) 0 (rcC Rc.fail).toArray rfl rfl (HQ2.out.there (n := 2) rfl) (infoRc Rc.fail) (rcC_one Rc.fail) ?_)
        refine bodyPost_ret (v := .tuple #[.slice (some ⟨w1.heap.size, 0, none⟩) 1 1, .agg (rcC Rc.fail).toArray]) ?_ rfl (ret_ri (r' := (List.replicate 1 0, Rc.fail)) HS.out rfl HRe.out HBe.out)
        exact results_slot_mid Tryz.results36 _ _ (w.heap.size + 1) (rcC Rc.fail) _ _ rfl rfl HQe.out.range Tryz.underlying63 rfl (infoRc Rc.fail)
      | true =>
        have HS : Hid (rkInts 1 ⟨s, true⟩ = (x, ⟨s.drop k, true⟩)) := Lib.hid (rk_some _ HP.out)
        go_enter Tryz.func36, Tryz.ntmps36
        go_wp2_with fail
        refine (retN_len (HA.out _) HG.out HN.out).mono ?_
        rintro e w1 ⟨⟨A, c, rfl, hr⟩, hb⟩
        have HR1 := Lib.hid (HR0.out.below hb)
        have HQ1 := Lib.hid (HQ0.out.below hb)
        have HB1 := Lib.hid (bon HB0.out hb)
        have hz1 : w.heap.size + 2 ≤ w1.heap.size := by have := hb.size; simpa using this
        have c0 := HR1.out.cells 0 _ rfl
        have c1 := HR1.out.cells 1 _ rfl
        have hmk := mk1
        have HRow0 := Lib.hid ((stays_row (b := w.heap.size + 2) hr (by simp)).on (keeps_below _ (Below.refl _ _).drew))
        clear hb hr
        go_wp2_with fail
        have HR2 := Lib.hid (HR1.out.below (Below.refl _ _).drew)
        have HQ2 := Lib.hid (HQ1.out.below (Below.refl _ _).drew)
        have HB2 := Lib.hid (HB1.out.drew)
        have i0 : (0 : Int) ≤ (k : Int) := by omega
        have i1 : (k : Int) ≤ (s.length : Int) := by omega
        refine wp_region_noPanic ?_
        generalize hv : w1.drew = v at HR2 HQ2 HB2 HRow0
        have hC := HR2.out.cells 0 _ rfl
        refine wp_region_held_drew (S := fun W => W.cell? ⟨w.heap.size, 0, none⟩ = some (.string ⟨s.toArray⟩)) (by kernel_rfl) (by rw [hv]; exact hC) (fun hHeld => ?_)
        rw [hv] at hHeld ⊢
        clear hv
        refine wpAnyH_take (i := 0) (oi := _) (v := ?_) rfl (by kernel_rfl) (by kernel_rfl) (by kernel_rfl) (fun _ _ _ h => h) (Or.inl ⟨by rfl, ?_⟩) (by assumption) ?_
        rotate_left
        · intro W hSw; (try dsimp only at hSw); go_simp; try with_reducible rfl
        try simp only [Act.put, List.setIfInBounds_toArray, List.set_cons_zero, List.set_cons_succ, List.getElem_toArray, List.getElem_cons_zero]
        refine wpAnyH_take (i := 1) (oi := _) (v := ?_) rfl (by kernel_rfl) (by kernel_rfl) (by kernel_rfl) (fun _ _ _ h => h) (Or.inl ⟨by rfl, ?_⟩) (by assumption) ?_
        rotate_left
        · intro W hSw; (try dsimp only at hSw); go_simp; try with_reducible rfl
        try simp only [Act.put, List.setIfInBounds_toArray, List.set_cons_zero, List.set_cons_succ, List.getElem_toArray, List.getElem_cons_succ, List.getElem_cons_zero]
        refine wpAnyH_take (i := 2) (oi := _) (v := ?_) rfl (by kernel_rfl) (by kernel_rfl) (by kernel_rfl) (fun _ _ _ h => h) (Or.inl ⟨by rfl, ?_⟩) (by assumption) ?_
        rotate_left
        · intro W hSw; (try dsimp only at hSw); go_simp; try with_reducible rfl
        try simp only [Act.put, List.setIfInBounds_toArray, List.set_cons_zero, List.set_cons_succ, List.getElem_toArray, List.getElem_cons_succ, List.getElem_cons_zero]
        refine wpAnyH_take (i := 3) (oi := _) (v := ?_) rfl (by kernel_rfl) (by kernel_rfl) (by kernel_rfl) (fun _ _ _ h => h) (Or.inl ⟨by rfl, ?_⟩) (by assumption) ?_
        rotate_left
        · intro W hSw; (try dsimp only at hSw); go_simp; try with_reducible rfl
        try simp only [Act.put, List.setIfInBounds_toArray, List.set_cons_zero, List.set_cons_succ, List.getElem_toArray, List.getElem_cons_succ, List.getElem_cons_zero]
        refine wpAnyH_take (i := 4) (oi := _) (v := ?_) rfl (by kernel_rfl) (by kernel_rfl) (by kernel_rfl) (fun _ _ _ h => h) (Or.inl ⟨by rfl, ?_⟩) (by assumption) ?_
        rotate_left
        · intro W hSw; (try dsimp only at hSw); go_simp; try with_reducible rfl
        try simp only [Act.put, List.setIfInBounds_toArray, List.set_cons_zero, List.set_cons_succ, List.getElem_toArray, List.getElem_cons_succ, List.getElem_cons_zero]
        refine wpAnyH_take (i := 5) (oi := _) (v := ?_) rfl (by kernel_rfl) (by kernel_rfl) (by kernel_rfl) (fun _ _ _ h => h) (Or.inl ⟨by rfl, ?_⟩) (by assumption) ?_
        rotate_left
        · intro W hSw; (try dsimp only at hSw); go_simp; try with_reducible rfl
        try simp only [Act.put, List.setIfInBounds_toArray, List.set_cons_zero, List.set_cons_succ, List.getElem_toArray, List.getElem_cons_succ, List.getElem_cons_zero]
        refine wpAnyH_take (i := 6) (oi := _) (v := ?_) rfl (by kernel_rfl) (by kernel_rfl) (by kernel_rfl) (fun _ _ _ h => h) (Or.inl ⟨by rfl, ?_⟩) (by assumption) ?_
        rotate_left
        · intro W hSw; (try dsimp only at hSw); go_simp; try with_reducible rfl
        try simp only [Act.put, List.setIfInBounds_toArray, List.set_cons_zero, List.set_cons_succ, List.getElem_toArray, List.getElem_cons_succ, List.getElem_cons_zero]
        refine wpAnyH_ready (rs := [7]) (by kernel_rfl) (by simp) ?_
        refine AllReadyH.cons (o := _) rfl (fun K hK => ?_) AllReadyH.nil
        rw [if_pos (by rfl)]
        refine wp_store_mid 63 _ _ rfl (w.heap.size + 1) 0 (rcC ⟨s.drop k, true⟩).toArray rfl (by show _ = Value.agg #[.string ⟨(s.drop k).toArray⟩, .bool true]; rw [← HX.out]; rfl) (HQ2.out.there (n := 2) rfl) (infoRc ⟨s.drop k, true⟩) (rcC_one ⟨s.drop k, true⟩) ?_
        have hC2 := (HR2.out.grown (grown_vs (b := w.heap.size + 1) (rcC ⟨s.drop k, true⟩)) (by omega)).cells 0 _ rfl
        have HBe := Lib.hid (below_gr HB2.out (grown_vs (b := w.heap.size + 1) (rcC ⟨s.drop k, true⟩)) (by omega))
        have HQe := Lib.hid (HQ2.out.sets (rcC ⟨s.drop k, true⟩) rfl)
        have HRe := Lib.hid ((HRow0.out.on (keeps_grown (grown_vs (b := w.heap.size + 1) (rcC ⟨s.drop k, true⟩)) (by omega))).low (b' := w.heap.size) (by omega))
        refine hK.out _ _ hC2 (fun hHeld => ?_)
        clear hK K
        try simp only [Act.put, List.getElem_toArray, List.getElem_cons_succ, List.getElem_cons_zero]
        refine wpAnyH_done (by kernel_rfl) ?_ _
        refine NoPanic.normal ?_
        go_wp2_with fail
        refine bodyPost_ret (v := .tuple #[.slice A 1 c, .agg (rcC ⟨s.drop k, true⟩).toArray]) ?_ rfl (ret_ri (r' := (x, ⟨s.drop k, true⟩)) HS.out HN.out.symm (by rw [HN.out]; exact HRe.out) HBe.out)
        exact results_slot_mid Tryz.results36 _ _ (w.heap.size + 1) (rcC ⟨s.drop k, true⟩) _ _ rfl rfl HQe.out.range Tryz.underlying63 rfl (infoRc ⟨s.drop k, true⟩)
    · have HS : Hid (rkInts 1 ⟨s, b⟩ = (List.replicate 1 0, Rc.fail)) := Lib.hid (rk_none _ (by unfold rdInts off; rw [hg]; simp only [if_neg hn]) b)
      have hn1 : ((x.length : Int) == 1) = false := by rw [beq_eq_false_iff_ne]; omega
      have hn2 : ((x.length : Int) != 1) = true := by rw [bne_iff_ne]; omega
      clear hg hn
      go_enter Tryz.func36, Tryz.ntmps36
      go_wp2_with fail
      refine (retN_some (HA.out _) HG.out).mono ?_
      rintro e w1 ⟨⟨A, c, rfl, hr⟩, hb⟩
      have HR1 := Lib.hid (HR0.out.below hb)
      have HQ1 := Lib.hid (HQ0.out.below hb)
      have HB1 := Lib.hid (bon HB0.out hb)
      have hz1 : w.heap.size + 2 ≤ w1.heap.size := by have := hb.size; simpa using this
      have c0 := HR1.out.cells 0 _ rfl
      have c1 := HR1.out.cells 1 _ rfl
      have hmk := mk1
      clear hb hr
      cases b
      all_goals
        have HQ2 := Lib.hid (HQ1.out.below (below_new w1 (.cells (intC (List.replicate 1 0)).toArray 3)))
        have HB2 := Lib.hid (bon HB1.out (below_new w1 (.cells (intC (List.replicate 1 0)).toArray 3)))
        have HRow := Lib.hid (stays_new (b := w.heap.size + 2) (k := 1) (n := 1) (cs := intC (List.replicate 1 0)) (T := 3) (w := w1) rfl hz1)
        have HBe := Lib.hid (below_gr HB2.out (grown_vs (b := w.heap.size + 1) (rcC Rc.fail)) (by omega))
        have HQe := Lib.hid (HQ2.out.sets (rcC Rc.fail) rfl)
        have HRe := Lib.hid ((HRow.out.on (keeps_grown (grown_vs (b := w.heap.size + 1) (rcC Rc.fail)) (by omega))).low (b' := w.heap.size) (by omega))
        go_wp2_with (refine wpList_store_mid rfl 63 _ _ rfl (w.heap.size + 1) 0 (rcC Rc.fail).toArray rfl rfl (HQ2.out.there (n := 2) rfl) (infoRc Rc.fail) (rcC_one Rc.fail) ?_)
        refine bodyPost_ret (v := .tuple #[.slice (some ⟨w1.heap.size, 0, none⟩) 1 1, .agg (rcC Rc.fail).toArray]) ?_ rfl (ret_ri (r' := (List.replicate 1 0, Rc.fail)) HS.out rfl HRe.out HBe.out)
        exact results_slot_mid Tryz.results36 _ _ (w.heap.size + 1) (rcC Rc.fail) _ _ rfl rfl HQe.out.range Tryz.underlying63 rfl (infoRc Rc.fail)
set_option maxRecDepth 100000 in
set_option maxHeartbeats 1000000 in
theorem refInts4_any (r : Rc) (w : World) (hl : r.s.length ≤ 268435456) :
    Calls Tryz.prog 36 #[.agg #[.string ⟨r.s.toArray⟩, .bool r.ok], .int .i64 4] w (RetRI (rkInts 4 r) w) := by
  obtain ⟨s, b⟩ := r
  simp only at hl
  have hlen : (ByteArray.mk s.toArray).size ≤ 268435456 := by rw [size_mk]; exact hl
  have HR0 := Lib.hid ((Vr.new w (rcC ⟨s, b⟩) 63).below (below_new (w.alloc (.cells (rcC ⟨s, b⟩).toArray 63)) (.cells (rcC Rc.fail).toArray 63)))
  have HQ0 := Lib.hid (Vr.new' (w.alloc (.cells (rcC ⟨s, b⟩).toArray 63)) (rcC Rc.fail) 63 (b := w.heap.size + 1) (by simp))
  have HB0 := Lib.hid (bon (below_new w (.cells (rcC ⟨s, b⟩).toArray 63)) (below_new (w.alloc (.cells (rcC ⟨s, b⟩).toArray 63)) (.cells (rcC Rc.fail).toArray 63)))
  have HA : Hid (∀ W, Calls Tryz.prog 85 #[.string ⟨s.toArray⟩] W (RetN s W)) := Lib.hid (fun W => by have := refGetInts_any ⟨s.toArray⟩ W (Nat.le_trans hlen (by decide)); simpa using this)
  cases hg : getInts s with
  | none =>
    have HS : Hid (rkInts 4 ⟨s, b⟩ = (List.replicate 4 0, Rc.fail)) := Lib.hid (rk_none _ (by unfold rdInts off; rw [hg]) b)
    have HG : Hid (getInts s = none) := Lib.hid hg
    clear hg
    go_enter Tryz.func36, Tryz.ntmps36
    go_wp2_with fail
    refine (retN_none (HA.out _) HG.out).mono ?_
    rintro e w1 ⟨⟨c, hc, rfl⟩, hb⟩
    have hc1 : (c == 0) = false := by simpa using hc
    have hc2 : (c != 0) = true := by simpa using hc
    have HR1 := Lib.hid (HR0.out.below hb)
    have HQ1 := Lib.hid (HQ0.out.below hb)
    have HB1 := Lib.hid (bon HB0.out hb)
    have hz1 : w.heap.size + 2 ≤ w1.heap.size := by have := hb.size; simpa using this
    have c0 := HR1.out.cells 0 _ rfl
    have c1 := HR1.out.cells 1 _ rfl
    have hmk := mk4
    clear hb
    cases b
    all_goals
      have HQ2 := Lib.hid (HQ1.out.below (below_new w1 (.cells (intC (List.replicate 4 0)).toArray 3)))
      have HB2 := Lib.hid (bon HB1.out (below_new w1 (.cells (intC (List.replicate 4 0)).toArray 3)))
      have HRow := Lib.hid (stays_new (b := w.heap.size + 2) (k := 1) (n := 4) (cs := intC (List.replicate 4 0)) (T := 3) (w := w1) rfl hz1)
      have HBe := Lib.hid (below_gr HB2.out (grown_vs (b := w.heap.size + 1) (rcC Rc.fail)) (by omega))
      have HQe := Lib.hid (HQ2.out.sets (rcC Rc.fail) rfl)
      have HRe := Lib.hid ((HRow.out.on (keeps_grown (grown_vs (b := w.heap.size + 1) (rcC Rc.fail)) (by omega))).low (b' := w.heap.size) (by omega))
      go_wp2_with (refine wpList_store_mid rfl 63 _ _ rfl (w.heap.size + 1) 0 (rcC Rc.fail).toArray rfl rfl (HQ2.out.there (n := 2) rfl) (infoRc Rc.fail) (rcC_one Rc.fail) ?_)
      refine bodyPost_ret (v := .tuple #[.slice (some ⟨w1.heap.size, 0, none⟩) 4 4, .agg (rcC Rc.fail).toArray]) ?_ rfl (ret_ri (r' := (List.replicate 4 0, Rc.fail)) HS.out rfl HRe.out HBe.out)
      exact results_slot_mid Tryz.results36 _ _ (w.heap.size + 1) (rcC Rc.fail) _ _ rfl rfl HQe.out.range Tryz.underlying63 rfl (infoRc Rc.fail)
  | some y =>
    obtain ⟨x, k⟩ := y
    have hk : k ≤ s.length := getInts_leW hg
    have HG : Hid (getInts s = some (x, k)) := Lib.hid hg
    by_cases hn : x.length = 4
    · have HP : Hid (rdInts 4 s = some (x, s.drop k)) := Lib.hid (by unfold rdInts off; rw [hg]; simp only [if_pos hn])
      have HX := Lib.hid (ext_list s k hk)
      have HN := Lib.hid hn
      clear hg hn
      cases b with
      | false =>
        have HS : Hid (rkInts 4 ⟨s, false⟩ = (List.replicate 4 0, Rc.fail)) := Lib.hid rfl
        go_enter Tryz.func36, Tryz.ntmps36
        go_wp2_with fail
        refine (retN_len (HA.out _) HG.out HN.out).mono ?_
        rintro e w1 ⟨⟨A, c, rfl, hr⟩, hb⟩
        have HR1 := Lib.hid (HR0.out.below hb)
        have HQ1 := Lib.hid (HQ0.out.below hb)
        have HB1 := Lib.hid (bon HB0.out hb)
        have hz1 : w.heap.size + 2 ≤ w1.heap.size := by have := hb.size; simpa using this
        have c0 := HR1.out.cells 0 _ rfl
        have c1 := HR1.out.cells 1 _ rfl
        have hmk := mk4
        clear hb hr
        have HQ2 := Lib.hid (HQ1.out.below (below_new w1 (.cells (intC (List.replicate 4 0)).toArray 3)))
        have HB2 := Lib.hid (bon HB1.out (below_new w1 (.cells (intC (List.replicate 4 0)).toArray 3)))
        have HRow := Lib.hid (stays_new (b := w.heap.size + 2) (k := 1) (n := 4) (cs := intC (List.replicate 4 0)) (T := 3) (w := w1) rfl hz1)
        have HBe := Lib.hid (below_gr HB2.out (grown_vs (b := w.heap.size + 1) (rcC Rc.fail)) (by omega))
        have HQe := Lib.hid (HQ2.out.sets (rcC Rc.fail) rfl)
        have HRe := Lib.hid ((HRow.out.on (keeps_grown (grown_vs (b := w.heap.size + 1) (rcC Rc.fail)) (by omega))).low (b' := w.heap.size) (by omega))
        go_wp2_with (refine wpList_store_mid rfl 63 _ _ rfl (w.heap.size + 1) 0 (rcC Rc.fail).toArray rfl rfl (HQ2.out.there (n := 2) rfl) (infoRc Rc.fail) (rcC_one Rc.fail) ?_)
        refine bodyPost_ret (v := .tuple #[.slice (some ⟨w1.heap.size, 0, none⟩) 4 4, .agg (rcC Rc.fail).toArray]) ?_ rfl (ret_ri (r' := (List.replicate 4 0, Rc.fail)) HS.out rfl HRe.out HBe.out)
        exact results_slot_mid Tryz.results36 _ _ (w.heap.size + 1) (rcC Rc.fail) _ _ rfl rfl HQe.out.range Tryz.underlying63 rfl (infoRc Rc.fail)
      | true =>
        have HS : Hid (rkInts 4 ⟨s, true⟩ = (x, ⟨s.drop k, true⟩)) := Lib.hid (rk_some _ HP.out)
        go_enter Tryz.func36, Tryz.ntmps36
        go_wp2_with fail
        refine (retN_len (HA.out _) HG.out HN.out).mono ?_
        rintro e w1 ⟨⟨A, c, rfl, hr⟩, hb⟩
        have HR1 := Lib.hid (HR0.out.below hb)
        have HQ1 := Lib.hid (HQ0.out.below hb)
        have HB1 := Lib.hid (bon HB0.out hb)
        have hz1 : w.heap.size + 2 ≤ w1.heap.size := by have := hb.size; simpa using this
        have c0 := HR1.out.cells 0 _ rfl
        have c1 := HR1.out.cells 1 _ rfl
        have hmk := mk4
        have HRow0 := Lib.hid ((stays_row (b := w.heap.size + 2) hr (by simp)).on (keeps_below _ (Below.refl _ _).drew))
        clear hb hr
        go_wp2_with fail
        have HR2 := Lib.hid (HR1.out.below (Below.refl _ _).drew)
        have HQ2 := Lib.hid (HQ1.out.below (Below.refl _ _).drew)
        have HB2 := Lib.hid (HB1.out.drew)
        have i0 : (0 : Int) ≤ (k : Int) := by omega
        have i1 : (k : Int) ≤ (s.length : Int) := by omega
        refine wp_region_noPanic ?_
        generalize hv : w1.drew = v at HR2 HQ2 HB2 HRow0
        have hC := HR2.out.cells 0 _ rfl
        refine wp_region_held_drew (S := fun W => W.cell? ⟨w.heap.size, 0, none⟩ = some (.string ⟨s.toArray⟩)) (by kernel_rfl) (by rw [hv]; exact hC) (fun hHeld => ?_)
        rw [hv] at hHeld ⊢
        clear hv
        refine wpAnyH_take (i := 0) (oi := _) (v := ?_) rfl (by kernel_rfl) (by kernel_rfl) (by kernel_rfl) (fun _ _ _ h => h) (Or.inl ⟨by rfl, ?_⟩) (by assumption) ?_
        rotate_left
        · intro W hSw; (try dsimp only at hSw); go_simp; try with_reducible rfl
        try simp only [Act.put, List.setIfInBounds_toArray, List.set_cons_zero, List.set_cons_succ, List.getElem_toArray, List.getElem_cons_zero]
        refine wpAnyH_take (i := 1) (oi := _) (v := ?_) rfl (by kernel_rfl) (by kernel_rfl) (by kernel_rfl) (fun _ _ _ h => h) (Or.inl ⟨by rfl, ?_⟩) (by assumption) ?_
        rotate_left
        · intro W hSw; (try dsimp only at hSw); go_simp; try with_reducible rfl
        try simp only [Act.put, List.setIfInBounds_toArray, List.set_cons_zero, List.set_cons_succ, List.getElem_toArray, List.getElem_cons_succ, List.getElem_cons_zero]
        refine wpAnyH_take (i := 2) (oi := _) (v := ?_) rfl (by kernel_rfl) (by kernel_rfl) (by kernel_rfl) (fun _ _ _ h => h) (Or.inl ⟨by rfl, ?_⟩) (by assumption) ?_
        rotate_left
        · intro W hSw; (try dsimp only at hSw); go_simp; try with_reducible rfl
        try simp only [Act.put, List.setIfInBounds_toArray, List.set_cons_zero, List.set_cons_succ, List.getElem_toArray, List.getElem_cons_succ, List.getElem_cons_zero]
        refine wpAnyH_take (i := 3) (oi := _) (v := ?_) rfl (by kernel_rfl) (by kernel_rfl) (by kernel_rfl) (fun _ _ _ h => h) (Or.inl ⟨by rfl, ?_⟩) (by assumption) ?_
        rotate_left
        · intro W hSw; (try dsimp only at hSw); go_simp; try with_reducible rfl
        try simp only [Act.put, List.setIfInBounds_toArray, List.set_cons_zero, List.set_cons_succ, List.getElem_toArray, List.getElem_cons_succ, List.getElem_cons_zero]
        refine wpAnyH_take (i := 4) (oi := _) (v := ?_) rfl (by kernel_rfl) (by kernel_rfl) (by kernel_rfl) (fun _ _ _ h => h) (Or.inl ⟨by rfl, ?_⟩) (by assumption) ?_
        rotate_left
        · intro W hSw; (try dsimp only at hSw); go_simp; try with_reducible rfl
        try simp only [Act.put, List.setIfInBounds_toArray, List.set_cons_zero, List.set_cons_succ, List.getElem_toArray, List.getElem_cons_succ, List.getElem_cons_zero]
        refine wpAnyH_take (i := 5) (oi := _) (v := ?_) rfl (by kernel_rfl) (by kernel_rfl) (by kernel_rfl) (fun _ _ _ h => h) (Or.inl ⟨by rfl, ?_⟩) (by assumption) ?_
        rotate_left
        · intro W hSw; (try dsimp only at hSw); go_simp; try with_reducible rfl
        try simp only [Act.put, List.setIfInBounds_toArray, List.set_cons_zero, List.set_cons_succ, List.getElem_toArray, List.getElem_cons_succ, List.getElem_cons_zero]
        refine wpAnyH_take (i := 6) (oi := _) (v := ?_) rfl (by kernel_rfl) (by kernel_rfl) (by kernel_rfl) (fun _ _ _ h => h) (Or.inl ⟨by rfl, ?_⟩) (by assumption) ?_
        rotate_left
        · intro W hSw; (try dsimp only at hSw); go_simp; try with_reducible rfl
        try simp only [Act.put, List.setIfInBounds_toArray, List.set_cons_zero, List.set_cons_succ, List.getElem_toArray, List.getElem_cons_succ, List.getElem_cons_zero]
        refine wpAnyH_ready (rs := [7]) (by kernel_rfl) (by simp) ?_
        refine AllReadyH.cons (o := _) rfl (fun K hK => ?_) AllReadyH.nil
        rw [if_pos (by rfl)]
        refine wp_store_mid 63 _ _ rfl (w.heap.size + 1) 0 (rcC ⟨s.drop k, true⟩).toArray rfl (by show _ = Value.agg #[.string ⟨(s.drop k).toArray⟩, .bool true]; rw [← HX.out]; rfl) (HQ2.out.there (n := 2) rfl) (infoRc ⟨s.drop k, true⟩) (rcC_one ⟨s.drop k, true⟩) ?_
        have hC2 := (HR2.out.grown (grown_vs (b := w.heap.size + 1) (rcC ⟨s.drop k, true⟩)) (by omega)).cells 0 _ rfl
        have HBe := Lib.hid (below_gr HB2.out (grown_vs (b := w.heap.size + 1) (rcC ⟨s.drop k, true⟩)) (by omega))
        have HQe := Lib.hid (HQ2.out.sets (rcC ⟨s.drop k, true⟩) rfl)
        have HRe := Lib.hid ((HRow0.out.on (keeps_grown (grown_vs (b := w.heap.size + 1) (rcC ⟨s.drop k, true⟩)) (by omega))).low (b' := w.heap.size) (by omega))
        refine hK.out _ _ hC2 (fun hHeld => ?_)
        clear hK K
        try simp only [Act.put, List.getElem_toArray, List.getElem_cons_succ, List.getElem_cons_zero]
        refine wpAnyH_done (by kernel_rfl) ?_ _
        refine NoPanic.normal ?_
        go_wp2_with fail
        refine bodyPost_ret (v := .tuple #[.slice A 4 c, .agg (rcC ⟨s.drop k, true⟩).toArray]) ?_ rfl (ret_ri (r' := (x, ⟨s.drop k, true⟩)) HS.out HN.out.symm (by rw [HN.out]; exact HRe.out) HBe.out)
        exact results_slot_mid Tryz.results36 _ _ (w.heap.size + 1) (rcC ⟨s.drop k, true⟩) _ _ rfl rfl HQe.out.range Tryz.underlying63 rfl (infoRc ⟨s.drop k, true⟩)
    · have HS : Hid (rkInts 4 ⟨s, b⟩ = (List.replicate 4 0, Rc.fail)) := Lib.hid (rk_none _ (by unfold rdInts off; rw [hg]; simp only [if_neg hn]) b)
      have hn1 : ((x.length : Int) == 4) = false := by rw [beq_eq_false_iff_ne]; omega
      have hn2 : ((x.length : Int) != 4) = true := by rw [bne_iff_ne]; omega
      clear hg hn
      go_enter Tryz.func36, Tryz.ntmps36
      go_wp2_with fail
      refine (retN_some (HA.out _) HG.out).mono ?_
      rintro e w1 ⟨⟨A, c, rfl, hr⟩, hb⟩
      have HR1 := Lib.hid (HR0.out.below hb)
      have HQ1 := Lib.hid (HQ0.out.below hb)
      have HB1 := Lib.hid (bon HB0.out hb)
      have hz1 : w.heap.size + 2 ≤ w1.heap.size := by have := hb.size; simpa using this
      have c0 := HR1.out.cells 0 _ rfl
      have c1 := HR1.out.cells 1 _ rfl
      have hmk := mk4
      clear hb hr
      cases b
      all_goals
        have HQ2 := Lib.hid (HQ1.out.below (below_new w1 (.cells (intC (List.replicate 4 0)).toArray 3)))
        have HB2 := Lib.hid (bon HB1.out (below_new w1 (.cells (intC (List.replicate 4 0)).toArray 3)))
        have HRow := Lib.hid (stays_new (b := w.heap.size + 2) (k := 1) (n := 4) (cs := intC (List.replicate 4 0)) (T := 3) (w := w1) rfl hz1)
        have HBe := Lib.hid (below_gr HB2.out (grown_vs (b := w.heap.size + 1) (rcC Rc.fail)) (by omega))
        have HQe := Lib.hid (HQ2.out.sets (rcC Rc.fail) rfl)
        have HRe := Lib.hid ((HRow.out.on (keeps_grown (grown_vs (b := w.heap.size + 1) (rcC Rc.fail)) (by omega))).low (b' := w.heap.size) (by omega))
        go_wp2_with (refine wpList_store_mid rfl 63 _ _ rfl (w.heap.size + 1) 0 (rcC Rc.fail).toArray rfl rfl (HQ2.out.there (n := 2) rfl) (infoRc Rc.fail) (rcC_one Rc.fail) ?_)
        refine bodyPost_ret (v := .tuple #[.slice (some ⟨w1.heap.size, 0, none⟩) 4 4, .agg (rcC Rc.fail).toArray]) ?_ rfl (ret_ri (r' := (List.replicate 4 0, Rc.fail)) HS.out rfl HRe.out HBe.out)
        exact results_slot_mid Tryz.results36 _ _ (w.heap.size + 1) (rcC Rc.fail) _ _ rfl rfl HQe.out.range Tryz.underlying63 rfl (infoRc Rc.fail)
set_option maxRecDepth 100000 in
set_option maxHeartbeats 1000000 in
theorem refInts6_any (r : Rc) (w : World) (hl : r.s.length ≤ 268435456) :
    Calls Tryz.prog 36 #[.agg #[.string ⟨r.s.toArray⟩, .bool r.ok], .int .i64 6] w (RetRI (rkInts 6 r) w) := by
  obtain ⟨s, b⟩ := r
  simp only at hl
  have hlen : (ByteArray.mk s.toArray).size ≤ 268435456 := by rw [size_mk]; exact hl
  have HR0 := Lib.hid ((Vr.new w (rcC ⟨s, b⟩) 63).below (below_new (w.alloc (.cells (rcC ⟨s, b⟩).toArray 63)) (.cells (rcC Rc.fail).toArray 63)))
  have HQ0 := Lib.hid (Vr.new' (w.alloc (.cells (rcC ⟨s, b⟩).toArray 63)) (rcC Rc.fail) 63 (b := w.heap.size + 1) (by simp))
  have HB0 := Lib.hid (bon (below_new w (.cells (rcC ⟨s, b⟩).toArray 63)) (below_new (w.alloc (.cells (rcC ⟨s, b⟩).toArray 63)) (.cells (rcC Rc.fail).toArray 63)))
  have HA : Hid (∀ W, Calls Tryz.prog 85 #[.string ⟨s.toArray⟩] W (RetN s W)) := Lib.hid (fun W => by have := refGetInts_any ⟨s.toArray⟩ W (Nat.le_trans hlen (by decide)); simpa using this)
  cases hg : getInts s with
  | none =>
    have HS : Hid (rkInts 6 ⟨s, b⟩ = (List.replicate 6 0, Rc.fail)) := Lib.hid (rk_none _ (by unfold rdInts off; rw [hg]) b)
    have HG : Hid (getInts s = none) := Lib.hid hg
    clear hg
    go_enter Tryz.func36, Tryz.ntmps36
    go_wp2_with fail
    refine (retN_none (HA.out _) HG.out).mono ?_
    rintro e w1 ⟨⟨c, hc, rfl⟩, hb⟩
    have hc1 : (c == 0) = false := by simpa using hc
    have hc2 : (c != 0) = true := by simpa using hc
    have HR1 := Lib.hid (HR0.out.below hb)
    have HQ1 := Lib.hid (HQ0.out.below hb)
    have HB1 := Lib.hid (bon HB0.out hb)
    have hz1 : w.heap.size + 2 ≤ w1.heap.size := by have := hb.size; simpa using this
    have c0 := HR1.out.cells 0 _ rfl
    have c1 := HR1.out.cells 1 _ rfl
    have hmk := mk6
    clear hb
    cases b
    all_goals
      have HQ2 := Lib.hid (HQ1.out.below (below_new w1 (.cells (intC (List.replicate 6 0)).toArray 3)))
      have HB2 := Lib.hid (bon HB1.out (below_new w1 (.cells (intC (List.replicate 6 0)).toArray 3)))
      have HRow := Lib.hid (stays_new (b := w.heap.size + 2) (k := 1) (n := 6) (cs := intC (List.replicate 6 0)) (T := 3) (w := w1) rfl hz1)
      have HBe := Lib.hid (below_gr HB2.out (grown_vs (b := w.heap.size + 1) (rcC Rc.fail)) (by omega))
      have HQe := Lib.hid (HQ2.out.sets (rcC Rc.fail) rfl)
      have HRe := Lib.hid ((HRow.out.on (keeps_grown (grown_vs (b := w.heap.size + 1) (rcC Rc.fail)) (by omega))).low (b' := w.heap.size) (by omega))
      go_wp2_with (refine wpList_store_mid rfl 63 _ _ rfl (w.heap.size + 1) 0 (rcC Rc.fail).toArray rfl rfl (HQ2.out.there (n := 2) rfl) (infoRc Rc.fail) (rcC_one Rc.fail) ?_)
      refine bodyPost_ret (v := .tuple #[.slice (some ⟨w1.heap.size, 0, none⟩) 6 6, .agg (rcC Rc.fail).toArray]) ?_ rfl (ret_ri (r' := (List.replicate 6 0, Rc.fail)) HS.out rfl HRe.out HBe.out)
      exact results_slot_mid Tryz.results36 _ _ (w.heap.size + 1) (rcC Rc.fail) _ _ rfl rfl HQe.out.range Tryz.underlying63 rfl (infoRc Rc.fail)
  | some y =>
    obtain ⟨x, k⟩ := y
    have hk : k ≤ s.length := getInts_leW hg
    have HG : Hid (getInts s = some (x, k)) := Lib.hid hg
    by_cases hn : x.length = 6
    · have HP : Hid (rdInts 6 s = some (x, s.drop k)) := Lib.hid (by unfold rdInts off; rw [hg]; simp only [if_pos hn])
      have HX := Lib.hid (ext_list s k hk)
      have HN := Lib.hid hn
      clear hg hn
      cases b with
      | false =>
        have HS : Hid (rkInts 6 ⟨s, false⟩ = (List.replicate 6 0, Rc.fail)) := Lib.hid rfl
        go_enter Tryz.func36, Tryz.ntmps36
        go_wp2_with fail
        refine (retN_len (HA.out _) HG.out HN.out).mono ?_
        rintro e w1 ⟨⟨A, c, rfl, hr⟩, hb⟩
        have HR1 := Lib.hid (HR0.out.below hb)
        have HQ1 := Lib.hid (HQ0.out.below hb)
        have HB1 := Lib.hid (bon HB0.out hb)
        have hz1 : w.heap.size + 2 ≤ w1.heap.size := by have := hb.size; simpa using this
        have c0 := HR1.out.cells 0 _ rfl
        have c1 := HR1.out.cells 1 _ rfl
        have hmk := mk6
        clear hb hr
        have HQ2 := Lib.hid (HQ1.out.below (below_new w1 (.cells (intC (List.replicate 6 0)).toArray 3)))
        have HB2 := Lib.hid (bon HB1.out (below_new w1 (.cells (intC (List.replicate 6 0)).toArray 3)))
        have HRow := Lib.hid (stays_new (b := w.heap.size + 2) (k := 1) (n := 6) (cs := intC (List.replicate 6 0)) (T := 3) (w := w1) rfl hz1)
        have HBe := Lib.hid (below_gr HB2.out (grown_vs (b := w.heap.size + 1) (rcC Rc.fail)) (by omega))
        have HQe := Lib.hid (HQ2.out.sets (rcC Rc.fail) rfl)
        have HRe := Lib.hid ((HRow.out.on (keeps_grown (grown_vs (b := w.heap.size + 1) (rcC Rc.fail)) (by omega))).low (b' := w.heap.size) (by omega))
        go_wp2_with (refine wpList_store_mid rfl 63 _ _ rfl (w.heap.size + 1) 0 (rcC Rc.fail).toArray rfl rfl (HQ2.out.there (n := 2) rfl) (infoRc Rc.fail) (rcC_one Rc.fail) ?_)
        refine bodyPost_ret (v := .tuple #[.slice (some ⟨w1.heap.size, 0, none⟩) 6 6, .agg (rcC Rc.fail).toArray]) ?_ rfl (ret_ri (r' := (List.replicate 6 0, Rc.fail)) HS.out rfl HRe.out HBe.out)
        exact results_slot_mid Tryz.results36 _ _ (w.heap.size + 1) (rcC Rc.fail) _ _ rfl rfl HQe.out.range Tryz.underlying63 rfl (infoRc Rc.fail)
      | true =>
        have HS : Hid (rkInts 6 ⟨s, true⟩ = (x, ⟨s.drop k, true⟩)) := Lib.hid (rk_some _ HP.out)
        go_enter Tryz.func36, Tryz.ntmps36
        go_wp2_with fail
        refine (retN_len (HA.out _) HG.out HN.out).mono ?_
        rintro e w1 ⟨⟨A, c, rfl, hr⟩, hb⟩
        have HR1 := Lib.hid (HR0.out.below hb)
        have HQ1 := Lib.hid (HQ0.out.below hb)
        have HB1 := Lib.hid (bon HB0.out hb)
        have hz1 : w.heap.size + 2 ≤ w1.heap.size := by have := hb.size; simpa using this
        have c0 := HR1.out.cells 0 _ rfl
        have c1 := HR1.out.cells 1 _ rfl
        have hmk := mk6
        have HRow0 := Lib.hid ((stays_row (b := w.heap.size + 2) hr (by simp)).on (keeps_below _ (Below.refl _ _).drew))
        clear hb hr
        go_wp2_with fail
        have HR2 := Lib.hid (HR1.out.below (Below.refl _ _).drew)
        have HQ2 := Lib.hid (HQ1.out.below (Below.refl _ _).drew)
        have HB2 := Lib.hid (HB1.out.drew)
        have i0 : (0 : Int) ≤ (k : Int) := by omega
        have i1 : (k : Int) ≤ (s.length : Int) := by omega
        refine wp_region_noPanic ?_
        generalize hv : w1.drew = v at HR2 HQ2 HB2 HRow0
        have hC := HR2.out.cells 0 _ rfl
        refine wp_region_held_drew (S := fun W => W.cell? ⟨w.heap.size, 0, none⟩ = some (.string ⟨s.toArray⟩)) (by kernel_rfl) (by rw [hv]; exact hC) (fun hHeld => ?_)
        rw [hv] at hHeld ⊢
        clear hv
        refine wpAnyH_take (i := 0) (oi := _) (v := ?_) rfl (by kernel_rfl) (by kernel_rfl) (by kernel_rfl) (fun _ _ _ h => h) (Or.inl ⟨by rfl, ?_⟩) (by assumption) ?_
        rotate_left
        · intro W hSw; (try dsimp only at hSw); go_simp; try with_reducible rfl
        try simp only [Act.put, List.setIfInBounds_toArray, List.set_cons_zero, List.set_cons_succ, List.getElem_toArray, List.getElem_cons_zero]
        refine wpAnyH_take (i := 1) (oi := _) (v := ?_) rfl (by kernel_rfl) (by kernel_rfl) (by kernel_rfl) (fun _ _ _ h => h) (Or.inl ⟨by rfl, ?_⟩) (by assumption) ?_
        rotate_left
        · intro W hSw; (try dsimp only at hSw); go_simp; try with_reducible rfl
        try simp only [Act.put, List.setIfInBounds_toArray, List.set_cons_zero, List.set_cons_succ, List.getElem_toArray, List.getElem_cons_succ, List.getElem_cons_zero]
        refine wpAnyH_take (i := 2) (oi := _) (v := ?_) rfl (by kernel_rfl) (by kernel_rfl) (by kernel_rfl) (fun _ _ _ h => h) (Or.inl ⟨by rfl, ?_⟩) (by assumption) ?_
        rotate_left
        · intro W hSw; (try dsimp only at hSw); go_simp; try with_reducible rfl
        try simp only [Act.put, List.setIfInBounds_toArray, List.set_cons_zero, List.set_cons_succ, List.getElem_toArray, List.getElem_cons_succ, List.getElem_cons_zero]
        refine wpAnyH_take (i := 3) (oi := _) (v := ?_) rfl (by kernel_rfl) (by kernel_rfl) (by kernel_rfl) (fun _ _ _ h => h) (Or.inl ⟨by rfl, ?_⟩) (by assumption) ?_
        rotate_left
        · intro W hSw; (try dsimp only at hSw); go_simp; try with_reducible rfl
        try simp only [Act.put, List.setIfInBounds_toArray, List.set_cons_zero, List.set_cons_succ, List.getElem_toArray, List.getElem_cons_succ, List.getElem_cons_zero]
        refine wpAnyH_take (i := 4) (oi := _) (v := ?_) rfl (by kernel_rfl) (by kernel_rfl) (by kernel_rfl) (fun _ _ _ h => h) (Or.inl ⟨by rfl, ?_⟩) (by assumption) ?_
        rotate_left
        · intro W hSw; (try dsimp only at hSw); go_simp; try with_reducible rfl
        try simp only [Act.put, List.setIfInBounds_toArray, List.set_cons_zero, List.set_cons_succ, List.getElem_toArray, List.getElem_cons_succ, List.getElem_cons_zero]
        refine wpAnyH_take (i := 5) (oi := _) (v := ?_) rfl (by kernel_rfl) (by kernel_rfl) (by kernel_rfl) (fun _ _ _ h => h) (Or.inl ⟨by rfl, ?_⟩) (by assumption) ?_
        rotate_left
        · intro W hSw; (try dsimp only at hSw); go_simp; try with_reducible rfl
        try simp only [Act.put, List.setIfInBounds_toArray, List.set_cons_zero, List.set_cons_succ, List.getElem_toArray, List.getElem_cons_succ, List.getElem_cons_zero]
        refine wpAnyH_take (i := 6) (oi := _) (v := ?_) rfl (by kernel_rfl) (by kernel_rfl) (by kernel_rfl) (fun _ _ _ h => h) (Or.inl ⟨by rfl, ?_⟩) (by assumption) ?_
        rotate_left
        · intro W hSw; (try dsimp only at hSw); go_simp; try with_reducible rfl
        try simp only [Act.put, List.setIfInBounds_toArray, List.set_cons_zero, List.set_cons_succ, List.getElem_toArray, List.getElem_cons_succ, List.getElem_cons_zero]
        refine wpAnyH_ready (rs := [7]) (by kernel_rfl) (by simp) ?_
        refine AllReadyH.cons (o := _) rfl (fun K hK => ?_) AllReadyH.nil
        rw [if_pos (by rfl)]
        refine wp_store_mid 63 _ _ rfl (w.heap.size + 1) 0 (rcC ⟨s.drop k, true⟩).toArray rfl (by show _ = Value.agg #[.string ⟨(s.drop k).toArray⟩, .bool true]; rw [← HX.out]; rfl) (HQ2.out.there (n := 2) rfl) (infoRc ⟨s.drop k, true⟩) (rcC_one ⟨s.drop k, true⟩) ?_
        have hC2 := (HR2.out.grown (grown_vs (b := w.heap.size + 1) (rcC ⟨s.drop k, true⟩)) (by omega)).cells 0 _ rfl
        have HBe := Lib.hid (below_gr HB2.out (grown_vs (b := w.heap.size + 1) (rcC ⟨s.drop k, true⟩)) (by omega))
        have HQe := Lib.hid (HQ2.out.sets (rcC ⟨s.drop k, true⟩) rfl)
        have HRe := Lib.hid ((HRow0.out.on (keeps_grown (grown_vs (b := w.heap.size + 1) (rcC ⟨s.drop k, true⟩)) (by omega))).low (b' := w.heap.size) (by omega))
        refine hK.out _ _ hC2 (fun hHeld => ?_)
        clear hK K
        try simp only [Act.put, List.getElem_toArray, List.getElem_cons_succ, List.getElem_cons_zero]
        refine wpAnyH_done (by kernel_rfl) ?_ _
        refine NoPanic.normal ?_
        go_wp2_with fail
        refine bodyPost_ret (v := .tuple #[.slice A 6 c, .agg (rcC ⟨s.drop k, true⟩).toArray]) ?_ rfl (ret_ri (r' := (x, ⟨s.drop k, true⟩)) HS.out HN.out.symm (by rw [HN.out]; exact HRe.out) HBe.out)
        exact results_slot_mid Tryz.results36 _ _ (w.heap.size + 1) (rcC ⟨s.drop k, true⟩) _ _ rfl rfl HQe.out.range Tryz.underlying63 rfl (infoRc ⟨s.drop k, true⟩)
    · have HS : Hid (rkInts 6 ⟨s, b⟩ = (List.replicate 6 0, Rc.fail)) := Lib.hid (rk_none _ (by unfold rdInts off; rw [hg]; simp only [if_neg hn]) b)
      have hn1 : ((x.length : Int) == 6) = false := by rw [beq_eq_false_iff_ne]; omega
      have hn2 : ((x.length : Int) != 6) = true := by rw [bne_iff_ne]; omega
      clear hg hn
      go_enter Tryz.func36, Tryz.ntmps36
      go_wp2_with fail
      refine (retN_some (HA.out _) HG.out).mono ?_
      rintro e w1 ⟨⟨A, c, rfl, hr⟩, hb⟩
      have HR1 := Lib.hid (HR0.out.below hb)
      have HQ1 := Lib.hid (HQ0.out.below hb)
      have HB1 := Lib.hid (bon HB0.out hb)
      have hz1 : w.heap.size + 2 ≤ w1.heap.size := by have := hb.size; simpa using this
      have c0 := HR1.out.cells 0 _ rfl
      have c1 := HR1.out.cells 1 _ rfl
      have hmk := mk6
      clear hb hr
      cases b
      all_goals
        have HQ2 := Lib.hid (HQ1.out.below (below_new w1 (.cells (intC (List.replicate 6 0)).toArray 3)))
        have HB2 := Lib.hid (bon HB1.out (below_new w1 (.cells (intC (List.replicate 6 0)).toArray 3)))
        have HRow := Lib.hid (stays_new (b := w.heap.size + 2) (k := 1) (n := 6) (cs := intC (List.replicate 6 0)) (T := 3) (w := w1) rfl hz1)
        have HBe := Lib.hid (below_gr HB2.out (grown_vs (b := w.heap.size + 1) (rcC Rc.fail)) (by omega))
        have HQe := Lib.hid (HQ2.out.sets (rcC Rc.fail) rfl)
        have HRe := Lib.hid ((HRow.out.on (keeps_grown (grown_vs (b := w.heap.size + 1) (rcC Rc.fail)) (by omega))).low (b' := w.heap.size) (by omega))
        go_wp2_with (refine wpList_store_mid rfl 63 _ _ rfl (w.heap.size + 1) 0 (rcC Rc.fail).toArray rfl rfl (HQ2.out.there (n := 2) rfl) (infoRc Rc.fail) (rcC_one Rc.fail) ?_)
        refine bodyPost_ret (v := .tuple #[.slice (some ⟨w1.heap.size, 0, none⟩) 6 6, .agg (rcC Rc.fail).toArray]) ?_ rfl (ret_ri (r' := (List.replicate 6 0, Rc.fail)) HS.out rfl HRe.out HBe.out)
        exact results_slot_mid Tryz.results36 _ _ (w.heap.size + 1) (rcC Rc.fail) _ _ rfl rfl HQe.out.range Tryz.underlying63 rfl (infoRc Rc.fail)
end Go.Proofs.YtoehakekjlebdaaGreatDoor
/- The reference's one. -/
namespace Go.Proofs.YtoehakekjlebdaaGreatDoor
open Go.RowKit

/-- a struct comes back with a rest -/
def RetRX {α : Type} (C : α → List Value) (er : α → α) (ok : α → World → Prop) (r : α × Rc) (w : World) (e : Ending) (w' : World) : Prop :=
  ∃ x, e = .returned (.tuple #[.agg (C x).toArray, .agg (rcC r.2).toArray]) ∧ er x = r.1 ∧ Stays w.heap.size (ok x) w' ∧ Below w.heap.size w w'
theorem ret_rx {α : Type} {C : α → List Value} {er : α → α} {ok : α → World → Prop} {r r' : α × Rc} {w w' : World} {e : Ending} {x : α} (h : r = r') (he : e = .returned (.tuple #[.agg (C x).toArray, .agg (rcC r'.2).toArray])) (hx : er x = r'.1) (hst : Stays w.heap.size (ok x) w') (hs : Below w.heap.size w w') : RetRX C er ok r w e w' := by
  subst h; exact ⟨x, he, hx, hst, hs⟩
/-- a list of signatures comes back with a rest -/
def RetRSgs (r : List Sg × Rc) (w : World) (e : Ending) (w' : World) : Prop :=
  ∃ A c, e = .returned (.tuple #[.slice A r.1.length c, .agg (rcC r.2).toArray]) ∧ Stays w.heap.size (fun w => Rd w 6 A r.1.length (r.1.flatMap sgC) ∧ ∀ x ∈ r.1, x.ok) w' ∧ Below w.heap.size w w'
theorem ret_rsgs {r r' : List Sg × Rc} {w w' : World} {A : Option Addr} {n c : Nat} (h : r = r') (hn : n = r'.1.length) (hr : Stays w.heap.size (fun w => Rd w 6 A r'.1.length (r'.1.flatMap sgC) ∧ ∀ x ∈ r'.1, x.ok) w') (k : Below w.heap.size w w') : RetRSgs r w (.returned (.tuple #[.slice A n c, .agg (rcC r'.2).toArray])) w' := by subst h hn; exact ⟨A, c, rfl, hr, k⟩
theorem whole_sg_ok {t : List UInt8} {x : Sg} (h : whole rdSg t = some x) : x.ok := by
  have := tkSg_ok ⟨t, false⟩
  unfold tkSg at this
  rw [h] at this
  exact this
theorem rkOne_eq (r : Rc) : rkOne r = if (rkText r).2.ok then match whole rdSg (rkText r).1 with
    | none => (sg0, Rc.fail)
    | some x => (x, (rkText r).2) else (sg0, Rc.fail) := by
  obtain ⟨s, b⟩ := r
  cases b
  · rfl
  · unfold rkOne rkText rk rdPart
    simp only [if_true]
    cases h : rdText s with
    | none => rfl
    | some y =>
      obtain ⟨t, q⟩ := y
      simp only [if_true]
      cases whole rdSg t <;> rfl
theorem rkText_len (r : Rc) : (rkText r).1.length ≤ r.s.length ∧ (rkText r).2.s.length ≤ r.s.length := by
  obtain ⟨s, b⟩ := r
  cases b
  · exact ⟨by simp [rkText, rk], by simp [rkText, rk, Rc.fail]⟩
  · unfold rkText rk
    simp only [if_true]
    cases h : rdText s with
    | none => simp [Rc.fail]
    | some y =>
      obtain ⟨t, q⟩ := y
      have := rdText_sz h
      simp only
      omega
set_option maxRecDepth 100000 in
set_option maxHeartbeats 2000000 in
theorem refOne_any (r : Rc) (w : World) (hl : r.s.length ≤ 268435456) :
    Calls Tryz.prog 38 #[.agg #[.string ⟨r.s.toArray⟩, .bool r.ok]] w (RetRX sgC id (fun x _ => x.ok) (rkOne r) w) := by
  have HE := Lib.hid (rkOne_eq r)
  have hlen := rkText_len r
  obtain ⟨wa, hwa⟩ : ∃ wa, wa = ((w.alloc (.cells (rcC r).toArray 63)).alloc (.cells (sgC sg0).toArray 24)).alloc (.cells (rcC Rc.fail).toArray 63) := ⟨_, rfl⟩
  have HR0 : Hid (Vr wa w.heap.size (rcC r)) := Lib.hid (by rw [hwa]; exact ((Vr.new w (rcC r) 63).below (below_new _ _)).below (below_new _ _))
  have HV0 : Hid (Vr wa (w.heap.size + 1) (sgC sg0)) := Lib.hid (by rw [hwa]; exact (Vr.new' _ (sgC sg0) 24 (by simp)).below (below_new _ _))
  have HQ0 : Hid (Vr wa (w.heap.size + 2) (rcC Rc.fail)) := Lib.hid (by rw [hwa]; exact Vr.new' _ (rcC Rc.fail) 63 (by simp))
  have HB0 : Hid (Below w.heap.size w wa) := Lib.hid (by rw [hwa]; exact bon (bon (below_new _ _) (below_new _ _)) (below_new _ _))
  have HT := Lib.hid (refText_any r wa hl)
  obtain ⟨p, hp⟩ : ∃ p, p = rkText r := ⟨_, rfl⟩
  rw [← hp] at HE HT hlen
  obtain ⟨t, s2, b2⟩ := p
  have hl2 : (ByteArray.mk t.toArray).size ≤ 1099511627776 := by rw [size_mk]; simp only at hlen; omega
  simp only at HE HT
  have hwa2 : ((w.alloc (.cells #[.string ⟨r.s.toArray⟩, .bool r.ok] 63)).alloc (.cells #[.int .i64 0, .int .i64 0, .int .i64 0, .int .i64 0, .string ⟨#[]⟩, .string ⟨#[]⟩] 24)).alloc (.cells #[.string ⟨#[]⟩, .bool false] 63) = wa := hwa.symm
  have HW := Lib.hid hwa2
  clear hp hlen hwa hwa2
  have c0 := HR0.out.cells 0 _ rfl
  have c1 := HR0.out.cells 1 _ rfl
  go_enter Tryz.func38, Tryz.ntmps38
  go_upto_region 1 with fail
  rw [HW.out]
  go_wp2_with fail
  refine HT.out.mono ?_
  rintro e w1 ⟨rfl, hb⟩
  have HR1 := Lib.hid (HR0.out.below hb)
  have HV1 := Lib.hid (HV0.out.below hb)
  have HQ1 := Lib.hid (HQ0.out.below hb)
  have HB1 := Lib.hid (bon HB0.out hb)
  clear hb c0 c1
  go_upto_region 2 with (refine wpList_store_mid rfl 63 _ _ rfl w.heap.size 0 (rcC ⟨s2, b2⟩).toArray rfl rfl (HR1.out.there (n := 2) rfl) (infoRc ⟨s2, b2⟩) (rcC_one ⟨s2, b2⟩) ?_)
  try simp only [List.toList_toArray]
  have HR2 := Lib.hid (HR1.out.sets (rcC ⟨s2, b2⟩) rfl)
  have HV2 := Lib.hid (HV1.out.grown (grown_vs (b := w.heap.size) (rcC ⟨s2, b2⟩)) (by omega))
  have HQ2 := Lib.hid (HQ1.out.grown (grown_vs (b := w.heap.size) (rcC ⟨s2, b2⟩)) (by omega))
  have HB2 := Lib.hid (below_gr HB1.out (grown_vs (b := w.heap.size) (rcC ⟨s2, b2⟩)) (Nat.le_refl _))
  generalize w1.setCells w.heap.size 0 (rcC ⟨s2, b2⟩) = w2 at HR2 HV2 HQ2 HB2 ⊢
  have hfin : ∀ (X : Sg) (w4 : World), Vr w4 w.heap.size (rcC ⟨s2, b2⟩) → True := fun _ _ _ => trivial
  clear hfin
  cases hw : whole rdSg t with
  | none =>
    have HG := Lib.hid (sgo_none (refSealDec_any ⟨t.toArray⟩ w2 hl2) (by simpa using hw))
    have HS : Hid (rkOne r = (sg0, Rc.fail)) := Lib.hid (by rw [HE.out, hw]; cases b2 <;> rfl)
    clear hw
    go_wp2_with fail
    refine HG.out.mono ?_
    rintro e w3 ⟨rfl, hb⟩
    have HR3 := Lib.hid (HR2.out.below hb)
    have HV3 := Lib.hid (HV2.out.below hb)
    have HQ3 := Lib.hid (HQ2.out.below hb)
    have HB3 := Lib.hid (bon HB2.out hb)
    clear hb
    have HR4 := Lib.hid (HR3.out.below (below_new w3 (.cells (sgC sg0).toArray 24)))
    have HV4 := Lib.hid (HV3.out.below (below_new w3 (.cells (sgC sg0).toArray 24)))
    have HQ4 := Lib.hid (HQ3.out.below (below_new w3 (.cells (sgC sg0).toArray 24)))
    have HB4 := Lib.hid (bon HB3.out (below_new w3 (.cells (sgC sg0).toArray 24)))
    go_upto_region 3 with fail
    have e3 : ∃ wx, wx = w3.alloc (.cells (sgC sg0).toArray 24) := ⟨_, rfl⟩
    obtain ⟨wx, hwx⟩ := e3
    rw [← hwx] at HR4 HV4 HQ4 HB4
    have hwx2 : w3.alloc (.cells #[.int .i64 0, .int .i64 0, .int .i64 0, .int .i64 0, .string ⟨#[]⟩, .string ⟨#[]⟩] 24) = wx := hwx.symm
    rw [hwx2]
    clear hwx hwx2
    have c1 := HR4.out.cells 1 _ rfl
    simp only [] at c1
    cases b2
    all_goals
      go_wp2_with (first
        | (refine wpList_store_mid rfl 24 _ _ rfl (w.heap.size + 1) 0 (sgC sg0).toArray rfl rfl ?_ (infoSgN sg0) (sgC_one sg0) ?_; · exact HV4.out.there (n := 6) rfl)
        | (refine wpList_store_mid rfl 63 _ _ rfl (w.heap.size + 2) 0 (rcC Rc.fail).toArray rfl rfl ?_ (infoRc Rc.fail) (rcC_one Rc.fail) ?_; · exact (HQ4.out.grown (grown_vs (b := w.heap.size + 1) (sgC sg0)) (by omega)).there (n := 2) rfl))
      refine bodyPost_ret (v := .tuple #[.agg (sgC sg0).toArray, .agg (rcC Rc.fail).toArray]) ?_ rfl (ret_rx (x := sg0) (r' := (sg0, Rc.fail)) HS.out rfl rfl (stays_const (P := sg0.ok) ⟨⟨by decide, by decide⟩, ⟨by decide, by decide⟩, ⟨by decide, by decide⟩, ⟨by decide, by decide⟩⟩) (below_gr (below_gr HB4.out (grown_vs (b := w.heap.size + 1) (sgC sg0)) (by omega)) (grown_vs (b := w.heap.size + 2) (rcC Rc.fail)) (by omega)))
      exact results_mid2 Tryz.results38 _ _ (w.heap.size + 1) (w.heap.size + 2) (sgC sg0) (rcC Rc.fail) _ _ rfl rfl ((HV4.out.sets (sgC sg0) rfl).grown (grown_vs (b := w.heap.size + 2) (rcC Rc.fail)) (by omega)).range ((HQ4.out.grown (grown_vs (b := w.heap.size + 1) (sgC sg0)) (by omega)).sets (rcC Rc.fail) rfl).range Tryz.underlying24 rfl (infoSgN sg0) Tryz.underlying63 rfl (infoRc Rc.fail)
  | some x =>
    have HG := Lib.hid (sgo_some (refSealDec_any ⟨t.toArray⟩ w2 hl2) (by simpa using hw))
    have HOk := Lib.hid (whole_sg_ok hw)
    cases b2 with
    | false =>
      have HS : Hid (rkOne r = (sg0, Rc.fail)) := Lib.hid (by rw [HE.out]; rfl)
      clear hw
      go_wp2_with fail
      refine HG.out.mono ?_
      rintro e w3 ⟨rfl, hb⟩
      have HR3 := Lib.hid (HR2.out.below hb)
      have HV3 := Lib.hid (HV2.out.below hb)
      have HQ3 := Lib.hid (HQ2.out.below hb)
      have HB3 := Lib.hid (bon HB2.out hb)
      clear hb
      have HR4 := Lib.hid (HR3.out.below (below_new w3 (.cells (sgC x).toArray 24)))
      have HV4 := Lib.hid (HV3.out.below (below_new w3 (.cells (sgC x).toArray 24)))
      have HQ4 := Lib.hid (HQ3.out.below (below_new w3 (.cells (sgC x).toArray 24)))
      have HB4 := Lib.hid (bon HB3.out (below_new w3 (.cells (sgC x).toArray 24)))
      go_upto_region 3 with fail
      have e3 : ∃ wx, wx = w3.alloc (.cells (sgC x).toArray 24) := ⟨_, rfl⟩
      obtain ⟨wx, hwx⟩ := e3
      rw [← hwx] at HR4 HV4 HQ4 HB4
      have hwx2 : w3.alloc (.cells #[.int .i64 x.server, .int .i64 x.kind, .int .i64 x.view, .int .i64 x.slot, .string ⟨x.digest.toArray⟩, .string ⟨x.sig.toArray⟩] 24) = wx := hwx.symm
      rw [hwx2]
      clear hwx hwx2
      have c1 := HR4.out.cells 1 _ rfl
      simp only [] at c1
      go_wp2_with (first
        | (refine wpList_store_mid rfl 24 _ _ rfl (w.heap.size + 1) 0 (sgC sg0).toArray rfl rfl ?_ (infoSgN sg0) (sgC_one sg0) ?_; · exact HV4.out.there (n := 6) rfl)
        | (refine wpList_store_mid rfl 63 _ _ rfl (w.heap.size + 2) 0 (rcC Rc.fail).toArray rfl rfl ?_ (infoRc Rc.fail) (rcC_one Rc.fail) ?_; · exact (HQ4.out.grown (grown_vs (b := w.heap.size + 1) (sgC sg0)) (by omega)).there (n := 2) rfl))
      refine bodyPost_ret (v := .tuple #[.agg (sgC sg0).toArray, .agg (rcC Rc.fail).toArray]) ?_ rfl (ret_rx (x := sg0) (r' := (sg0, Rc.fail)) HS.out rfl rfl (stays_const (P := sg0.ok) ⟨⟨by decide, by decide⟩, ⟨by decide, by decide⟩, ⟨by decide, by decide⟩, ⟨by decide, by decide⟩⟩) (below_gr (below_gr HB4.out (grown_vs (b := w.heap.size + 1) (sgC sg0)) (by omega)) (grown_vs (b := w.heap.size + 2) (rcC Rc.fail)) (by omega)))
      exact results_mid2 Tryz.results38 _ _ (w.heap.size + 1) (w.heap.size + 2) (sgC sg0) (rcC Rc.fail) _ _ rfl rfl ((HV4.out.sets (sgC sg0) rfl).grown (grown_vs (b := w.heap.size + 2) (rcC Rc.fail)) (by omega)).range ((HQ4.out.grown (grown_vs (b := w.heap.size + 1) (sgC sg0)) (by omega)).sets (rcC Rc.fail) rfl).range Tryz.underlying24 rfl (infoSgN sg0) Tryz.underlying63 rfl (infoRc Rc.fail)
    | true =>
      have HS : Hid (rkOne r = (x, ⟨s2, true⟩)) := Lib.hid (by rw [HE.out, hw]; rfl)
      clear hw
      go_wp2_with fail
      refine HG.out.mono ?_
      rintro e w3 ⟨rfl, hb⟩
      have HR3 := Lib.hid ((HR2.out.below hb).below (below_new w3 (.cells (sgC x).toArray 24)))
      have HV3 := Lib.hid ((HV2.out.below hb).below (below_new w3 (.cells (sgC x).toArray 24)))
      have HQ3 := Lib.hid ((HQ2.out.below hb).below (below_new w3 (.cells (sgC x).toArray 24)))
      have HX3 := Lib.hid (Vr.new w3 (sgC x) 24)
      have HB3 := Lib.hid (bon (bon HB2.out hb) (below_new w3 (.cells (sgC x).toArray 24)))
      have hq3 : w.heap.size + 2 < w3.heap.size := (HQ2.out.below hb).lt
      clear hb
      go_upto_region 3 with fail
      have e3 : ∃ wx, wx = w3.alloc (.cells (sgC x).toArray 24) := ⟨_, rfl⟩
      obtain ⟨wx, hwx⟩ := e3
      rw [← hwx] at HR3 HV3 HQ3 HX3 HB3
      have hwx2 : w3.alloc (.cells #[.int .i64 x.server, .int .i64 x.kind, .int .i64 x.view, .int .i64 x.slot, .string ⟨x.digest.toArray⟩, .string ⟨x.sig.toArray⟩] 24) = wx := hwx.symm
      rw [hwx2]
      clear hwx hwx2
      have c1 := HR3.out.cells 1 _ rfl
      go_wp2_with fail
      clear c1
      have hx0 := HV3.out.lt
      have hne : w.heap.size < w3.heap.size ∧ w.heap.size + 1 < w3.heap.size ∧ w.heap.size + 2 < w3.heap.size := by
        exact ⟨by omega, by omega, hq3⟩
      refine wp_region_noPanic ?_
      have HR4 := Lib.hid (HR3.out.below (Below.refl _ _).drew)
      have HV4 := Lib.hid (HV3.out.below (Below.refl _ _).drew)
      have HQ4 := Lib.hid (HQ3.out.below (Below.refl _ _).drew)
      have HX4 := Lib.hid (HX3.out.below (Below.refl _ _).drew)
      have HB4 := Lib.hid (HB3.out.drew)
      generalize hv : wx.drew = v at HR4 HV4 HQ4 HX4 HB4
      refine wp_region_held_drew (S := fun W => W.rangeAt w3.heap.size 0 (sgC x) ∧ W.rangeAt w.heap.size 0 (rcC ⟨s2, true⟩)) (by kernel_rfl) (by rw [hv]; exact ⟨HX4.out.range, HR4.out.range⟩) (fun hHeld => ?_)
      rw [hv] at hHeld ⊢
      clear hv
      refine wpAnyH_take (i := 0) (oi := _) rfl (by kernel_rfl) (by kernel_rfl) (by kernel_rfl) (fun _ _ _ h => h) (yieldsIf_load_mid (by rfl) 24 _ (by rfl) _ 0 (by rfl) (sgC x) _ (fun _ h => h.1) Tryz.underlying24 rfl (infoSgN x)) (by assumption) ?_
      try simp only [Act.put, List.setIfInBounds_toArray, List.set_cons_zero, List.set_cons_succ, List.getElem_toArray, List.getElem_cons_zero]
      refine wpAnyH_take (i := 1) (oi := _) rfl (by kernel_rfl) (by kernel_rfl) (by kernel_rfl) (fun _ _ _ h => h) (yieldsIf_load_mid (by rfl) 63 _ (by rfl) _ 0 (by rfl) (rcC ⟨s2, true⟩) _ (fun _ h => h.2) Tryz.underlying63 rfl (infoRc ⟨s2, true⟩)) (by assumption) ?_
      try simp only [Act.put, List.setIfInBounds_toArray, List.set_cons_zero, List.set_cons_succ, List.getElem_toArray, List.getElem_cons_succ, List.getElem_cons_zero]
      refine wpAnyH_ready (rs := [2]) (by kernel_rfl) (by simp) ?_
      refine AllReadyH.cons (o := _) rfl (fun K hK => ?_) AllReadyH.nil
      rw [if_pos (by rfl)]
      refine wp_store_mid 24 _ _ rfl (w.heap.size + 1) 0 (sgC x).toArray rfl rfl (HV4.out.there (n := 6) rfl) (infoSgN x) (sgC_one x) ?_
      try simp only []
      have HR5 := Lib.hid (HR4.out.grown (grown_vs (b := w.heap.size + 1) (sgC x)) (by omega))
      have HX5 := Lib.hid (HX4.out.grown (grown_vs (b := w.heap.size + 1) (sgC x)) (by omega))
      have HQ5 := Lib.hid (HQ4.out.grown (grown_vs (b := w.heap.size + 1) (sgC x)) (by omega))
      have HV5 := Lib.hid (HV4.out.sets (sgC x) rfl)
      have HB5 := Lib.hid (below_gr HB4.out (grown_vs (b := w.heap.size + 1) (sgC x)) (by omega))
      generalize v.setCells (w.heap.size + 1) 0 (sgC x) = v5 at HR5 HX5 HQ5 HV5 HB5 ⊢
      refine hK.out _ _ ⟨HX5.out.range, HR5.out.range⟩ (fun hHeld => ?_)
      clear hK K
      try simp only [Act.put, List.getElem_toArray, List.getElem_cons_succ, List.getElem_cons_zero]
      refine wpAnyH_ready (rs := [3]) (by kernel_rfl) (by simp) ?_
      refine AllReadyH.cons (o := _) rfl (fun K hK => ?_) AllReadyH.nil
      rw [if_pos (by rfl)]
      refine wp_store_mid 63 _ _ rfl (w.heap.size + 2) 0 (rcC ⟨s2, true⟩).toArray rfl rfl (HQ5.out.there (n := 2) rfl) (infoRc ⟨s2, true⟩) (rcC_one ⟨s2, true⟩) ?_
      try simp only []
      have HR6 := Lib.hid (HR5.out.grown (grown_vs (b := w.heap.size + 2) (rcC ⟨s2, true⟩)) (by omega))
      have HX6 := Lib.hid (HX5.out.grown (grown_vs (b := w.heap.size + 2) (rcC ⟨s2, true⟩)) (by omega))
      have HV6 := Lib.hid (HV5.out.grown (grown_vs (b := w.heap.size + 2) (rcC ⟨s2, true⟩)) (by omega))
      have HQ6 := Lib.hid (HQ5.out.sets (rcC ⟨s2, true⟩) rfl)
      have HB6 := Lib.hid (below_gr HB5.out (grown_vs (b := w.heap.size + 2) (rcC ⟨s2, true⟩)) (by omega))
      refine hK.out _ _ ⟨HX6.out.range, HR6.out.range⟩ (fun hHeld => ?_)
      clear hK K
      try simp only [Act.put, List.getElem_toArray, List.getElem_cons_succ, List.getElem_cons_zero]
      refine wpAnyH_done (by kernel_rfl) ?_ _
      refine NoPanic.normal ?_
      go_wp2_with fail
      refine bodyPost_ret (v := .tuple #[.agg (sgC x).toArray, .agg (rcC ⟨s2, true⟩).toArray]) ?_ rfl (ret_rx (x := x) (r' := (x, ⟨s2, true⟩)) HS.out rfl rfl (stays_const HOk.out) HB6.out)
      exact results_mid2 Tryz.results38 _ _ (w.heap.size + 1) (w.heap.size + 2) (sgC x) (rcC ⟨s2, true⟩) _ _ rfl rfl HV6.out.range HQ6.out.range Tryz.underlying24 rfl (infoSgN x) Tryz.underlying63 rfl (infoRc ⟨s2, true⟩)
end Go.Proofs.YtoehakekjlebdaaGreatDoor
/- The reference's signed. -/
namespace Go.Proofs.YtoehakekjlebdaaGreatDoor
open Go.RowKit

theorem rkSgs_eq (r : Rc) : rkSgs r = match many rdSg (rkTexts r).1 with
    | none => ([], Rc.fail)
    | some xs => (xs, (rkTexts r).2) := by
  obtain ⟨s, b⟩ := r
  cases b
  · rfl
  · unfold rkSgs rkTexts rk rdParts
    simp only [if_true]
    cases h : rdTexts s with
    | none => rfl
    | some y =>
      obtain ⟨l, q⟩ := y
      simp only
      cases many rdSg l <;> rfl
theorem rkTexts_len (r : Rc) : sum szS (rkTexts r).1 ≤ r.s.length ∧ (rkTexts r).2.s.length ≤ r.s.length := by
  obtain ⟨s, b⟩ := r
  cases b
  · exact ⟨by simp [rkTexts, rk, sum], by simp [rkTexts, rk, Rc.fail]⟩
  · unfold rkTexts rk
    simp only [if_true]
    cases h : rdTexts s with
    | none => simp [Rc.fail, sum]
    | some y =>
      obtain ⟨t, q⟩ := y
      have := rdTexts_sz h
      simp only
      omega
set_option maxRecDepth 100000 in
set_option maxHeartbeats 1000000 in
theorem refSigned_any (r : Rc) (w : World) (hl : r.s.length ≤ 268435456) :
    Calls Tryz.prog 70 #[.agg #[.string ⟨r.s.toArray⟩, .bool r.ok]] w (RetRSgs (rkSgs r) w) := by
  have HE := Lib.hid (rkSgs_eq r)
  have hlen := rkTexts_len r
  obtain ⟨wa, hwa⟩ : ∃ wa, wa = (w.alloc (.cells (rcC r).toArray 63)).alloc (.cells (rcC Rc.fail).toArray 63) := ⟨_, rfl⟩
  have HR0 : Hid (Vr wa w.heap.size (rcC r)) := Lib.hid (by rw [hwa]; exact (Vr.new w (rcC r) 63).below (below_new _ _))
  have HQ0 : Hid (Vr wa (w.heap.size + 1) (rcC Rc.fail)) := Lib.hid (by rw [hwa]; exact Vr.new' _ (rcC Rc.fail) 63 (by simp))
  have HB0 : Hid (Below w.heap.size w wa) := Lib.hid (by rw [hwa]; exact bon (below_new _ _) (below_new _ _))
  have HT := Lib.hid (refTexts_any r wa hl)
  have hza : wa.heap.size = w.heap.size + 2 := by rw [hwa]; simp
  have HZa := Lib.hid hza
  obtain ⟨p, hp⟩ : ∃ p, p = rkTexts r := ⟨_, rfl⟩
  rw [← hp] at HE HT hlen
  obtain ⟨l, s2, b2⟩ := p
  simp only at hlen HE HT
  have hln : l.length ≤ 268435456 := by have := sum_ge szS l 1 szS_ge; omega
  have HTl : Hid (∀ t ∈ l, (ByteArray.mk t.toArray).size ≤ 1099511627776) := Lib.hid (fun t ht => by rw [size_mk]; have := sum_get szS l t ht; unfold szS at this hlen; omega)
  have hwa2 : (w.alloc (.cells #[.string ⟨r.s.toArray⟩, .bool r.ok] 63)).alloc (.cells #[.string ⟨#[]⟩, .bool false] 63) = wa := hwa.symm
  have HW := Lib.hid hwa2
  obtain ⟨i0, hi, hz0, hz1, hz2⟩ := info_parts infoSgr
  have HI := Lib.hid hi
  have HZ0 := Lib.hid hz0
  have HZ1 := Lib.hid hz1
  have HZ2 := Lib.hid hz2
  clear hi hz0 hz1 hz2 hp hlen hwa hwa2 hza
  have c0 := HR0.out.cells 0 _ rfl
  have c1 := HR0.out.cells 1 _ rfl
  go_enter Tryz.func70, Tryz.ntmps70
  go_upto_region 1 with fail
  rw [HW.out]
  go_wp2_with fail
  refine HT.out.mono ?_
  rintro e w1 ⟨A, c, rfl, hrow, hb⟩
  rw [HZa.out] at hrow
  have HR1 := Lib.hid (HR0.out.below hb)
  have HQ1 := Lib.hid (HQ0.out.below hb)
  have HB1 := Lib.hid (bon HB0.out hb)
  have HRow1 := Lib.hid hrow
  clear hb c0 c1 hrow
  go_upto_region 2 with (refine wpList_store_mid rfl 63 _ _ rfl w.heap.size 0 (rcC ⟨s2, b2⟩).toArray rfl rfl (HR1.out.there (n := 2) rfl) (infoRc ⟨s2, b2⟩) (rcC_one ⟨s2, b2⟩) ?_)
  try simp only [List.toList_toArray]
  have HR2 := Lib.hid (HR1.out.sets (rcC ⟨s2, b2⟩) rfl)
  have HQ2 := Lib.hid (HQ1.out.grown (grown_vs (b := w.heap.size) (rcC ⟨s2, b2⟩)) (by omega))
  have HB2 := Lib.hid (below_gr HB1.out (grown_vs (b := w.heap.size) (rcC ⟨s2, b2⟩)) (Nat.le_refl _))
  have HRow2 := Lib.hid (HRow1.out.on (keeps_grown (grown_vs (b := w.heap.size) (rcC ⟨s2, b2⟩)) (by omega)))
  generalize w1.setCells w.heap.size 0 (rcC ⟨s2, b2⟩) = w2 at HR2 HQ2 HB2 HRow2 ⊢
  have hw2 : w.heap.size + 1 < w2.heap.size := HQ2.out.lt
  go_wp2_with fail
  go_loopw [5, 6] (fun o i wr => ∃ (j : Nat) (xs : List Sg), i = .int .i64 j ∧ j ≤ l.length ∧ xs.length = j ∧ wr.ownsRow w2.heap.size 24 6 o j (xs.flatMap sgC) ∧ Below w2.heap.size w2 wr ∧ w2.heap.size ≤ wr.heap.size ∧ (∀ x ∈ xs, x.ok) ∧
    many rdSg l = (match many rdSg (l.drop j) with
      | none => none
      | some ys => some (xs ++ ys))) (fun _ i _ => l.length - (intOf i).toNat)
  case atStart => exact ⟨0, [], rfl, by omega, rfl, World.ownsRow_nil _ _ _ _, Below.refl _ _, Nat.le_refl _, by simp, by rw [List.drop_zero]; cases many rdSg l <;> rfl⟩
  case round =>
    obtain ⟨j, xs, rfl, hj, hxs, hown, hb, hge, hok, hm⟩ := hrel
    have HO := Lib.hid hown
    have HB := Lib.hid hb
    have HXs := Lib.hid hxs
    have HOk := Lib.hid hok
    have HM := Lib.hid hm
    have HRr := Lib.hid (HR2.out.below hb)
    have HQr := Lib.hid (HQ2.out.below hb)
    have HRowr := Lib.hid (HRow2.out.on (keeps_below _ hb))
    have HBr := Lib.hid (bon HB2.out hb)
    clear hown hb hxs hok hm
    by_cases hlt : j < l.length
    · have i0' : (0 : Int) ≤ (j : Int) := by omega
      have i1 : (j : Int) < (l.length : Int) := by omega
      obtain ⟨b, off, hA, hbl, hcc⟩ := HRowr.out.out.cells (by rw [strC_len]; omega)
      subst hA
      obtain ⟨t, ht⟩ : ∃ t, t = l[j] := ⟨_, rfl⟩
      have a0 : wr.cell? ⟨b, off + j, none⟩ = some (.string ⟨t.toArray⟩) := hcc j _ (by unfold strC; rw [List.getElem?_map, List.getElem?_eq_getElem hlt, ht]; rfl)
      have hl2 := HTl.out t (ht ▸ List.getElem_mem hlt)
      have HDr : Hid (l.drop j = t :: l.drop (j + 1)) := Lib.hid (by rw [List.drop_eq_getElem_cons hlt, ht])
      clear ht hcc hbl
      cases hw : whole rdSg t with
      | none =>
        have HG := Lib.hid (sgo_none (refSealDec_any ⟨t.toArray⟩ wr hl2) (by simpa using hw))
        have HS : Hid (rkSgs r = ([], Rc.fail)) := Lib.hid (by rw [HE.out, HM.out, HDr.out, many, hw])
        clear hw hl2
        go_wp2_with fail
        refine HG.out.mono ?_
        rintro e w3 ⟨rfl, hb⟩
        have HQ3 := Lib.hid ((HQr.out.below hb).below (below_new w3 (.cells (sgC sg0).toArray 24)))
        have HB3 := Lib.hid (bon (bon HBr.out hb) (below_new w3 (.cells (sgC sg0).toArray 24)))
        clear hb a0
        go_upto_region 7 with fail
        obtain ⟨wx, hwx⟩ : ∃ wx, wx = w3.alloc (.cells (sgC sg0).toArray 24) := ⟨_, rfl⟩
        rw [← hwx] at HQ3 HB3
        have hwx2 : w3.alloc (.cells #[.int .i64 0, .int .i64 0, .int .i64 0, .int .i64 0, .string ⟨#[]⟩, .string ⟨#[]⟩] 24) = wx := hwx.symm
        rw [hwx2]
        clear hwx hwx2
        have HBe := Lib.hid (below_gr HB3.out (grown_vs (b := w.heap.size + 1) (rcC Rc.fail)) (by omega))
        have HQe := Lib.hid (HQ3.out.sets (rcC Rc.fail) rfl)
        go_wp2_with (refine wpList_store_mid rfl 63 _ _ rfl (w.heap.size + 1) 0 (rcC Rc.fail).toArray rfl rfl ?_ (infoRc Rc.fail) (rcC_one Rc.fail) ?_; · exact HQ3.out.there (n := 2) rfl)
        refine bodyPost_ret (v := .tuple #[.slice none 0 0, .agg (rcC Rc.fail).toArray]) ?_ rfl (ret_rsgs (r' := ([], Rc.fail)) HS.out rfl (fun W _ => ⟨Rd.nil _ _ _, by simp⟩) HBe.out)
        exact results_slot_mid Tryz.results70 _ _ (w.heap.size + 1) (rcC Rc.fail) _ _ rfl rfl HQe.out.range Tryz.underlying63 rfl (infoRc Rc.fail)
      | some x =>
        have HG := Lib.hid (sgo_some (refSealDec_any ⟨t.toArray⟩ wr hl2) (by simpa using hw))
        have HOx := Lib.hid (whole_sg_ok hw)
        have HM2 : Hid (many rdSg l = (match many rdSg (l.drop (j + 1)) with
            | none => none
            | some ys => some (xs ++ [x] ++ ys))) := Lib.hid (by
          rw [HM.out, HDr.out, many, hw]
          simp only
          cases many rdSg (l.drop (j + 1)) with
          | none => rfl
          | some ys => simp)
        clear hw hl2
        go_wp2_with fail
        refine HG.out.mono ?_
        rintro e w3 ⟨rfl, hb⟩
        have HO3 := Lib.hid (ownsRow_below HO.out hb)
        have HB3 : Hid (Below w2.heap.size w2 w3) := Lib.hid (HB.out.trans (hb.mono hge))
        have hge3 : w2.heap.size ≤ w3.heap.size := Nat.le_trans hge hb.size
        clear hb a0
        go_wp2_with (at_builtin; refine wpList_append_own _ rfl _ _ 22 rfl w2.heap.size 24 i0 _ 6 64 Tryz.underlying22 HI.out HZ0.out HZ1.out HZ2.out rfl (by decide) _ _ _ rfl ((HO3.out.alloc _).alloc _) ⟨w3.heap.size + 1, 0, none⟩ 1 1 [.int .i64 x.server, .int .i64 x.kind, .int .i64 x.view, .int .i64 x.slot, .string ⟨x.digest.toArray⟩, .string ⟨x.sig.toArray⟩] rfl rfl (cell_new _ _ _ _ (by simp)) (by simp [Value.oneCell']) (by simp [maxLen]; omega) (by omega) (by simp; omega) ?_)
        intro v' w4 hown' hgrow _
        have HO4 : Hid (w4.ownsRow w2.heap.size 24 6 v' (j + 1) ((xs ++ [x]).flatMap sgC)) := Lib.hid (by rw [List.flatMap_append, show [x].flatMap sgC = sgC x from by simp]; exact hown')
        have HB4 : Hid (Below w2.heap.size w2 w4) := Lib.hid (below_grown ((HB3.out.alloc hge3 _).alloc (by simp; omega) _) (by simp; omega) hgrow (fun g hg => (HO3.out.lt g hg).1))
        have hge4 : w2.heap.size ≤ w4.heap.size := by have := hgrow.size; simp at this; omega
        clear hown' hgrow
        go_wp2_with fail
        go_roundw
        case rel => exact ⟨j + 1, xs ++ [x], by go_num, by omega, by simp [HXs.out], HO4.out, HB4.out, hge4, fun y hy => by
          rcases List.mem_append.1 hy with hy | hy
          · exact HOk.out y hy
          · rw [List.mem_singleton] at hy; subst hy; exact HOx.out, HM2.out⟩
        case measure => simp [intOf]; omega
    · obtain rfl : j = l.length := by omega
      have HS : Hid (rkSgs r = (xs, ⟨s2, b2⟩)) := Lib.hid (by rw [HE.out, HM.out, List.drop_length, many]; simp)
      obtain ⟨a5, c5, hv⟩ := ownsRow_form HO.out
      subst hv
      have HRw := Lib.hid ((stays_row HO.out (b := w.heap.size + 2) (by omega)).on (keeps_below _ (Below.refl _ _).drew))
      have HR5 := Lib.hid (HRr.out.below (Below.refl _ _).drew)
      have HQ5 := Lib.hid (HQr.out.below (Below.refl _ _).drew)
      have HB5 := Lib.hid (HBr.out.drew)
      go_wp2_with fail
      refine wp_region_noPanic ?_
      generalize hv : wr.drew = v at HR5 HQ5 HB5 HRw
      refine wp_region_held_drew (S := fun W => W.rangeAt w.heap.size 0 (rcC ⟨s2, b2⟩)) (by kernel_rfl) (by rw [hv]; exact HR5.out.range) (fun hHeld => ?_)
      rw [hv] at hHeld ⊢
      clear hv
      refine wpAnyH_take (i := 0) (oi := _) (v := ?_) rfl (by kernel_rfl) (by kernel_rfl) (by kernel_rfl) (fun _ _ _ h => h) (Or.inl ⟨by rfl, ?_⟩) (by assumption) ?_
      rotate_left
      · intro W hSw; (try dsimp only at hSw); go_simp; try with_reducible rfl
      try simp only [Act.put, List.setIfInBounds_toArray, List.set_cons_zero, List.set_cons_succ, List.getElem_toArray, List.getElem_cons_zero]
      refine wpAnyH_take (i := 1) (oi := _) rfl (by kernel_rfl) (by kernel_rfl) (by kernel_rfl) (fun _ _ _ h => h) (yieldsIf_load_mid (by rfl) 63 _ (by rfl) _ 0 (by rfl) (rcC ⟨s2, b2⟩) _ (fun _ h => h) Tryz.underlying63 rfl (infoRc ⟨s2, b2⟩)) (by assumption) ?_
      try simp only [Act.put, List.setIfInBounds_toArray, List.set_cons_zero, List.set_cons_succ, List.getElem_toArray, List.getElem_cons_succ, List.getElem_cons_zero]
      refine wpAnyH_take (i := 2) (oi := _) (v := ?_) rfl (by kernel_rfl) (by kernel_rfl) (by kernel_rfl) (fun _ _ _ h => h) (Or.inl ⟨by rfl, ?_⟩) (by assumption) ?_
      rotate_left
      · intro W hSw; (try dsimp only at hSw); go_simp; try with_reducible rfl
      try simp only [Act.put, List.setIfInBounds_toArray, List.set_cons_zero, List.set_cons_succ, List.getElem_toArray, List.getElem_cons_succ, List.getElem_cons_zero]
      refine wpAnyH_ready (rs := [3]) (by kernel_rfl) (by simp) ?_
      refine AllReadyH.cons (o := _) rfl (fun K hK => ?_) AllReadyH.nil
      rw [if_pos (by rfl)]
      refine wp_store_mid 63 _ _ rfl (w.heap.size + 1) 0 (rcC ⟨s2, b2⟩).toArray rfl rfl (HQ5.out.there (n := 2) rfl) (infoRc ⟨s2, b2⟩) (rcC_one ⟨s2, b2⟩) ?_
      try simp only []
      have HR6 := Lib.hid (HR5.out.grown (grown_vs (b := w.heap.size + 1) (rcC ⟨s2, b2⟩)) (by omega))
      have HQ6 := Lib.hid (HQ5.out.sets (rcC ⟨s2, b2⟩) rfl)
      have HB6 := Lib.hid (below_gr HB5.out (grown_vs (b := w.heap.size + 1) (rcC ⟨s2, b2⟩)) (by omega))
      have HRw6 := Lib.hid ((HRw.out.on (keeps_grown (grown_vs (b := w.heap.size + 1) (rcC ⟨s2, b2⟩)) (by omega))).low (b' := w.heap.size) (by omega))
      refine hK.out _ _ HR6.out.range (fun hHeld => ?_)
      clear hK K
      try simp only [Act.put, List.getElem_toArray, List.getElem_cons_succ, List.getElem_cons_zero]
      refine wpAnyH_done (by kernel_rfl) ?_ _
      refine NoPanic.normal ?_
      go_wp2_with fail
      refine bodyPost_ret (v := .tuple #[.slice a5 l.length c5, .agg (rcC ⟨s2, b2⟩).toArray]) ?_ rfl (ret_rsgs (r' := (xs, ⟨s2, b2⟩)) HS.out HXs.out.symm (fun W hW => ⟨by rw [HXs.out]; exact HRw6.out W hW, HOk.out⟩) HB6.out)
      exact results_slot_mid Tryz.results70 _ _ (w.heap.size + 1) (rcC ⟨s2, b2⟩) _ _ rfl rfl HQ6.out.range Tryz.underlying63 rfl (infoRc ⟨s2, b2⟩)
end Go.Proofs.YtoehakekjlebdaaGreatDoor
