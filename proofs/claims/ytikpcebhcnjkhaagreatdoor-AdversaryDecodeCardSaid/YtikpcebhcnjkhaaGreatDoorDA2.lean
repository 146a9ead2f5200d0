/- The families of a draft. -/
import Derived.Test.YtikpcebhcnjkhaaGreatDoorDPl
import Derived.Test.YtikpcebhcnjkhaaGreatDoorDA1
namespace Go.Proofs.YtikpcebhcnjkhaaGreatDoor
open Go.RowKit
structure Dr where
 kind : Nat
 n : Nat
 mode : Nat
 read : Sl Nat
 write : Sl Nat
 faults : Sl (Nat × Nat)
def drC (d : Dr) : List Value := [.int .u8 (d.kind : Int), .int .u8 (d.n : Int), .int .u8 (d.mode : Int), .slice d.read.a d.read.l.length d.read.c, .slice d.write.a d.write.l.length d.write.c, .slice d.faults.a d.faults.l.length d.faults.c]
set_option maxRecDepth 100000 in
set_option maxHeartbeats 4000000 in
theorem sets3_any (d : Dr) (m : Sl Nat) (w : World) (hm : Rd w 1 m.a m.l.length (setC m.l)) (hu : u16s m.l) (hd : d.mode < 256) : Calls Tryz.prog 54 #[.agg #[.int .u8 (d.kind : Int), .int .u8 (d.n : Int), .int .u8 (d.mode : Int), .slice d.read.a d.read.l.length d.read.c, .slice d.write.a d.write.l.length d.write.c, .slice d.faults.a d.faults.l.length d.faults.c], .slice m.a m.l.length m.c, .int .i64 3] w (Sm w) := by
 have HM := hD hm
 have HU := hD hu
 have d0 : (0 : Int) ≤ (d.mode : Int) := by omega
 have d1 : (d.mode : Int) < 256 := by omega
 have HB1 := hD (below_new w (.cells #[.int .u8 (d.kind : Int), .int .u8 (d.n : Int), .int .u8 (d.mode : Int), .slice d.read.a d.read.l.length d.read.c, .slice d.write.a d.write.l.length d.write.c, .slice d.faults.a d.faults.l.length d.faults.c] 74))
 obtain ⟨w1, hw1⟩ : ∃ w1, w1 = w.alloc (.cells #[.int .u8 (d.kind : Int), .int .u8 (d.n : Int), .int .u8 (d.mode : Int), .slice d.read.a d.read.l.length d.read.c, .slice d.write.a d.write.l.length d.write.c, .slice d.faults.a d.faults.l.length d.faults.c] 74) := ⟨_, rfl⟩
 have HW1 := hD hw1
 rw [← hw1] at HB1
 clear hm hu hw1
 by_cases hmo : (d.mode : Int) % 2 = 1
 · have q1 : ((d.mode : Int) % 2 == 1) = true := by rw [beq_iff_eq]; exact hmo
   clear hmo
   rcases Nat.eq_zero_or_pos m.l.length with h0 | h0
   · have q2 : decide ((0 : Int) < (m.l.length : Int)) = false := by rw [h0]; rfl
     have q3 : decide (0 < m.l.length) = false := by rw [h0]; rfl
     clear h0
     go_enter Tryz.func54, Tryz.ntmps54
     go_wp2_with fail
     refine (choose_any 7 3 _ (by decide)).mono ?_
     rintro e w2 ⟨⟨A, n, c, rfl⟩, hb2⟩
     have HB2 := hD hb2
     clear hb2
     go_wp2_with fail
     go_ret
     exact ⟨⟨A, n, c, rfl⟩, bon (below_new w _) HB2.out⟩
   · obtain ⟨b, off, hA, hg, hcc⟩ := sets_at HM.out h0
     have hx := HU.out _ (List.getElem_mem h0)
     obtain ⟨x, hxe⟩ : ∃ x, x = m.l[0] := ⟨_, rfl⟩
     rw [← hxe] at hcc hx
     have cx : w.cell? ⟨b, off, none⟩ = some (.int .u16 (x : Int)) := by simpa using hcc _ (Below.refl _ _)
     have x0 : (0 : Int) ≤ (x : Int) := by omega
     have x1 : (x : Int) < 65536 := by omega
     have hlt : b < w.heap.size := hg
     have h00 : decide (0 < m.l.length) = true := by simpa using h0
     have hrun : ∀ w', Sem.run Tryz.prog (Instr.indexAt 71 (.slice m.a m.l.length m.c) (.int .i64 0)) w' = .ok (Value.pointer (some ⟨b, off, none⟩)) w' := fun w' => by
      rw [hA]; go_simp
     clear hcc hxe hA
     go_enter Tryz.func54, Tryz.ntmps54
     go_wp2_with fail
     refine (choose_any 7 _ _ (by decide)).mono ?_
     rintro e w2 ⟨⟨A, n, c, rfl⟩, hb2⟩
     have HB2 := hD hb2
     clear hb2
     go_wp2_with fail
     go_ret
     exact ⟨⟨A, n, c, rfl⟩, bon (below_new w _) HB2.out⟩
 · have q1 : ((d.mode : Int) % 2 == 1) = false := by rw [beq_eq_false_iff_ne]; exact hmo
   clear hmo
   go_enter Tryz.func54, Tryz.ntmps54
   go_wp2_with fail
   go_loopw [9, 10] (fun o i wr => ∃ (j : Nat) (q : Value) (s : List Nat), i = .int .i64 j ∧ q = o ∧ j ≤ m.l.length ∧ j ≤ 6 ∧ s.length ≤ j ∧ u16s s ∧ wr.ownsRow w1.heap.size 26 1 q s.length (setC s) ∧ Below w1.heap.size w1 wr) (fun _ i _ => 6 - (intOf i).toNat)
   case atStart => exact ⟨0, _, [], rfl, rfl, by omega, by omega, by simp, by simp [u16s], World.ownsRow_nil _ _ _ _, by rw [HW1.out]; exact Below.refl _ _⟩
   case round =>
    obtain ⟨j, o, s, rfl, rfl, hj, hj6, hsl, hus, how, hbl⟩ := hrel
    have HO := hD how
    have HB := hD hbl
    have HS := hD hus
    have hz := hbl.size
    have hz0 := HB1.out.size
    clear hbl hus
    obtain ⟨A, c, rfl⟩ := ownsRow_form how
    clear how
    have i0' : (0 : Int) ≤ (j : Int) := by omega
    by_cases hlt : j < m.l.length ∧ j < 6
    · obtain ⟨hlt1, hlt2⟩ := hlt
      have i1 : (j : Int) < (m.l.length : Int) := by omega
      have i2 : (j : Int) < 6 := by omega
      obtain ⟨b, off, hA, hg, hcc⟩ := sets_at HM.out hlt1
      obtain ⟨x, hxe⟩ : ∃ x, x = m.l[j] := ⟨_, rfl⟩
      have hx := HU.out _ (List.getElem_mem hlt1)
      rw [← hxe] at hcc hx
      have cx := hcc wr (bon HB1.out HB.out)
      have hrun : ∀ w', Sem.run Tryz.prog (Instr.indexAt 71 (.slice m.a m.l.length m.c) (.int .i64 j)) w' = .ok (Value.pointer (some ⟨b, off + j, none⟩)) w' := fun w' => by
       rw [hA]; go_simp
      obtain ⟨u, hu, he⟩ := and_u16 (x : Int) 7
      have hgr : b < wr.heap.size := by omega
      clear hcc hxe hA
      by_cases hu0 : u = 0
      · subst hu0
        go_wp2_with fail
        go_roundw
        case rel => exact ⟨j + 1, _, s, by go_num, rfl, by omega, by omega, by omega, HS.out, HO.out, HB.out⟩
        case measure => simp [intOf]; omega
      · have e1 : ((u : Int) != 0) = true := by rw [bne_iff_ne]; omega
        have HUu := hD hu
        clear hu0 hu
        go_wp2_with (at_builtin; refine wpList_apr elemSet rfl _ _ rfl w1.heap.size rfl (HO.out.alloc _) rfl (rd_new wr 1 1 [.int .u16 (u : Int)] _ (by rfl)) (by simp [Value.oneCell']) (by omega) (by omega) (by simp; omega) ?_)
        intro A' c' w4 hown hb4
        have HO4 := hD (rdC_app hown)
        have HB4 := hD ((bon HB.out (below_new wr _)).trans hb4)
        clear hown hb4 he e1
        go_wp2_with fail
        go_roundw
        case rel => exact ⟨j + 1, _, s ++ [u], by go_num, by simp, by omega, by omega, by simp; omega, u16s_snoc HS.out HUu.out, HO4.out, HB4.out⟩
        case measure => simp [intOf]; omega
    · have hg : decide (j < m.l.length) = false ∨ (decide (j < m.l.length) = true ∧ decide ((j : Int) < 6) = false) := by
        by_cases h1 : j < m.l.length
        · exact .inr ⟨by simpa using h1, by simp; omega⟩
        · exact .inl (by simp; omega)
      have HLe : Hid (∀ (W : World) (A' : Option Addr) (c' : Nat) (s' : List Nat), s'.length ≤ 7 → u16s s' → Rd W 1 A' s'.length (setC s') → Calls Tryz.prog 90 #[.slice A' s'.length c'] W (Sm W)) := hD (fun W A' c' s' h1 h2 h3 => least_any A' c' s' W h3 h2 (by omega))
      have hs6 : s.length ≤ 6 := by omega
      rcases hg with hg1 | ⟨hg1, hg2⟩
      · rcases Nat.eq_zero_or_pos s.length with h0 | h0
        · have hs : s = [] := List.eq_nil_of_length_eq_zero h0
          subst hs
          clear h0
          go_wp2_with (at_builtin; refine wpList_apr elemSet rfl _ _ rfl w1.heap.size rfl (HO.out.alloc _) rfl (rd_new _ 1 1 [.int .u16 7] _ (by rfl)) (by simp [Value.oneCell']) (by omega) (by omega) (by simp; omega) ?_)
          intro A' c' w4 hown hb4
          have HO4 : Hid (Rd w4 1 A' 1 (setC [7])) := hD (Rd.own hown)
          have HB4 := hD ((bon HB.out (below_new _ _)).trans hb4)
          clear hown hb4
          go_wp2_with fail
          refine (HLe.out _ A' c' [7] (by simp) (by simp [u16s]) HO4.out).mono ?_
          rintro e w5 ⟨⟨A5, n5, c5, rfl⟩, hb5⟩
          have HB5 := hD hb5
          clear hb5
          go_wp2_with fail
          go_ret
          exact ⟨⟨A5, n5, c5, rfl⟩, bon (bon HB1.out HB4.out) HB5.out⟩
        · have hne : (s.length == 0) = false := by rw [beq_eq_false_iff_ne]; omega
          go_wp2_with fail
          refine (HLe.out _ A c s (by omega) HS.out (Rd.own HO.out)).mono ?_
          rintro e w5 ⟨⟨A5, n5, c5, rfl⟩, hb5⟩
          have HB5 := hD hb5
          clear hb5
          go_wp2_with fail
          go_ret
          exact ⟨⟨A5, n5, c5, rfl⟩, bon (bon HB1.out HB.out) HB5.out⟩
      · rcases Nat.eq_zero_or_pos s.length with h0 | h0
        · have hs : s = [] := List.eq_nil_of_length_eq_zero h0
          subst hs
          clear h0
          go_wp2_with (at_builtin; refine wpList_apr elemSet rfl _ _ rfl w1.heap.size rfl (HO.out.alloc _) rfl (rd_new _ 1 1 [.int .u16 7] _ (by rfl)) (by simp [Value.oneCell']) (by omega) (by omega) (by simp; omega) ?_)
          intro A' c' w4 hown hb4
          have HO4 : Hid (Rd w4 1 A' 1 (setC [7])) := hD (Rd.own hown)
          have HB4 := hD ((bon HB.out (below_new _ _)).trans hb4)
          clear hown hb4
          go_wp2_with fail
          refine (HLe.out _ A' c' [7] (by simp) (by simp [u16s]) HO4.out).mono ?_
          rintro e w5 ⟨⟨A5, n5, c5, rfl⟩, hb5⟩
          have HB5 := hD hb5
          clear hb5
          go_wp2_with fail
          go_ret
          exact ⟨⟨A5, n5, c5, rfl⟩, bon (bon HB1.out HB4.out) HB5.out⟩
        · have hne : (s.length == 0) = false := by rw [beq_eq_false_iff_ne]; omega
          go_wp2_with fail
          refine (HLe.out _ A c s (by omega) HS.out (Rd.own HO.out)).mono ?_
          rintro e w5 ⟨⟨A5, n5, c5, rfl⟩, hb5⟩
          have HB5 := hD hb5
          clear hb5
          go_wp2_with fail
          go_ret
          exact ⟨⟨A5, n5, c5, rfl⟩, bon (bon HB1.out HB.out) HB5.out⟩
set_option maxRecDepth 100000 in
set_option maxHeartbeats 4000000 in
theorem sets4_any (d : Dr) (m : Sl Nat) (w : World) (hm : Rd w 1 m.a m.l.length (setC m.l)) (hu : u16s m.l) (hd : d.mode < 256) : Calls Tryz.prog 54 #[.agg #[.int .u8 (d.kind : Int), .int .u8 (d.n : Int), .int .u8 (d.mode : Int), .slice d.read.a d.read.l.length d.read.c, .slice d.write.a d.write.l.length d.write.c, .slice d.faults.a d.faults.l.length d.faults.c], .slice m.a m.l.length m.c, .int .i64 4] w (Sm w) := by
 have HM := hD hm
 have HU := hD hu
 have d0 : (0 : Int) ≤ (d.mode : Int) := by omega
 have d1 : (d.mode : Int) < 256 := by omega
 have HB1 := hD (below_new w (.cells #[.int .u8 (d.kind : Int), .int .u8 (d.n : Int), .int .u8 (d.mode : Int), .slice d.read.a d.read.l.length d.read.c, .slice d.write.a d.write.l.length d.write.c, .slice d.faults.a d.faults.l.length d.faults.c] 74))
 obtain ⟨w1, hw1⟩ : ∃ w1, w1 = w.alloc (.cells #[.int .u8 (d.kind : Int), .int .u8 (d.n : Int), .int .u8 (d.mode : Int), .slice d.read.a d.read.l.length d.read.c, .slice d.write.a d.write.l.length d.write.c, .slice d.faults.a d.faults.l.length d.faults.c] 74) := ⟨_, rfl⟩
 have HW1 := hD hw1
 rw [← hw1] at HB1
 clear hm hu hw1
 by_cases hmo : (d.mode : Int) % 2 = 1
 · have q1 : ((d.mode : Int) % 2 == 1) = true := by rw [beq_iff_eq]; exact hmo
   clear hmo
   rcases Nat.eq_zero_or_pos m.l.length with h0 | h0
   · have q2 : decide ((0 : Int) < (m.l.length : Int)) = false := by rw [h0]; rfl
     have q3 : decide (0 < m.l.length) = false := by rw [h0]; rfl
     clear h0
     go_enter Tryz.func54, Tryz.ntmps54
     go_wp2_with fail
     refine (choose_any 15 4 _ (by decide)).mono ?_
     rintro e w2 ⟨⟨A, n, c, rfl⟩, hb2⟩
     have HB2 := hD hb2
     clear hb2
     go_wp2_with fail
     go_ret
     exact ⟨⟨A, n, c, rfl⟩, bon (below_new w _) HB2.out⟩
   · obtain ⟨b, off, hA, hg, hcc⟩ := sets_at HM.out h0
     have hx := HU.out _ (List.getElem_mem h0)
     obtain ⟨x, hxe⟩ : ∃ x, x = m.l[0] := ⟨_, rfl⟩
     rw [← hxe] at hcc hx
     have cx : w.cell? ⟨b, off, none⟩ = some (.int .u16 (x : Int)) := by simpa using hcc _ (Below.refl _ _)
     have x0 : (0 : Int) ≤ (x : Int) := by omega
     have x1 : (x : Int) < 65536 := by omega
     have hlt : b < w.heap.size := hg
     have h00 : decide (0 < m.l.length) = true := by simpa using h0
     have hrun : ∀ w', Sem.run Tryz.prog (Instr.indexAt 71 (.slice m.a m.l.length m.c) (.int .i64 0)) w' = .ok (Value.pointer (some ⟨b, off, none⟩)) w' := fun w' => by
      rw [hA]; go_simp
     clear hcc hxe hA
     go_enter Tryz.func54, Tryz.ntmps54
     go_wp2_with fail
     refine (choose_any 15 _ _ (by decide)).mono ?_
     rintro e w2 ⟨⟨A, n, c, rfl⟩, hb2⟩
     have HB2 := hD hb2
     clear hb2
     go_wp2_with fail
     go_ret
     exact ⟨⟨A, n, c, rfl⟩, bon (below_new w _) HB2.out⟩
 · have q1 : ((d.mode : Int) % 2 == 1) = false := by rw [beq_eq_false_iff_ne]; exact hmo
   clear hmo
   go_enter Tryz.func54, Tryz.ntmps54
   go_wp2_with fail
   go_loopw [9, 10] (fun o i wr => ∃ (j : Nat) (q : Value) (s : List Nat), i = .int .i64 j ∧ q = o ∧ j ≤ m.l.length ∧ j ≤ 6 ∧ s.length ≤ j ∧ u16s s ∧ wr.ownsRow w1.heap.size 26 1 q s.length (setC s) ∧ Below w1.heap.size w1 wr) (fun _ i _ => 6 - (intOf i).toNat)
   case atStart => exact ⟨0, _, [], rfl, rfl, by omega, by omega, by simp, by simp [u16s], World.ownsRow_nil _ _ _ _, by rw [HW1.out]; exact Below.refl _ _⟩
   case round =>
    obtain ⟨j, o, s, rfl, rfl, hj, hj6, hsl, hus, how, hbl⟩ := hrel
    have HO := hD how
    have HB := hD hbl
    have HS := hD hus
    have hz := hbl.size
    have hz0 := HB1.out.size
    clear hbl hus
    obtain ⟨A, c, rfl⟩ := ownsRow_form how
    clear how
    have i0' : (0 : Int) ≤ (j : Int) := by omega
    by_cases hlt : j < m.l.length ∧ j < 6
    · obtain ⟨hlt1, hlt2⟩ := hlt
      have i1 : (j : Int) < (m.l.length : Int) := by omega
      have i2 : (j : Int) < 6 := by omega
      obtain ⟨b, off, hA, hg, hcc⟩ := sets_at HM.out hlt1
      obtain ⟨x, hxe⟩ : ∃ x, x = m.l[j] := ⟨_, rfl⟩
      have hx := HU.out _ (List.getElem_mem hlt1)
      rw [← hxe] at hcc hx
      have cx := hcc wr (bon HB1.out HB.out)
      have hrun : ∀ w', Sem.run Tryz.prog (Instr.indexAt 71 (.slice m.a m.l.length m.c) (.int .i64 j)) w' = .ok (Value.pointer (some ⟨b, off + j, none⟩)) w' := fun w' => by
       rw [hA]; go_simp
      obtain ⟨u, hu, he⟩ := and_u16 (x : Int) 15
      have hgr : b < wr.heap.size := by omega
      clear hcc hxe hA
      by_cases hu0 : u = 0
      · subst hu0
        go_wp2_with fail
        go_roundw
        case rel => exact ⟨j + 1, _, s, by go_num, rfl, by omega, by omega, by omega, HS.out, HO.out, HB.out⟩
        case measure => simp [intOf]; omega
      · have e1 : ((u : Int) != 0) = true := by rw [bne_iff_ne]; omega
        have HUu := hD hu
        clear hu0 hu
        go_wp2_with (at_builtin; refine wpList_apr elemSet rfl _ _ rfl w1.heap.size rfl (HO.out.alloc _) rfl (rd_new wr 1 1 [.int .u16 (u : Int)] _ (by rfl)) (by simp [Value.oneCell']) (by omega) (by omega) (by simp; omega) ?_)
        intro A' c' w4 hown hb4
        have HO4 := hD (rdC_app hown)
        have HB4 := hD ((bon HB.out (below_new wr _)).trans hb4)
        clear hown hb4 he e1
        go_wp2_with fail
        go_roundw
        case rel => exact ⟨j + 1, _, s ++ [u], by go_num, by simp, by omega, by omega, by simp; omega, u16s_snoc HS.out HUu.out, HO4.out, HB4.out⟩
        case measure => simp [intOf]; omega
    · have hg : decide (j < m.l.length) = false ∨ (decide (j < m.l.length) = true ∧ decide ((j : Int) < 6) = false) := by
        by_cases h1 : j < m.l.length
        · exact .inr ⟨by simpa using h1, by simp; omega⟩
        · exact .inl (by simp; omega)
      have HLe : Hid (∀ (W : World) (A' : Option Addr) (c' : Nat) (s' : List Nat), s'.length ≤ 7 → u16s s' → Rd W 1 A' s'.length (setC s') → Calls Tryz.prog 90 #[.slice A' s'.length c'] W (Sm W)) := hD (fun W A' c' s' h1 h2 h3 => least_any A' c' s' W h3 h2 (by omega))
      have hs6 : s.length ≤ 6 := by omega
      rcases hg with hg1 | ⟨hg1, hg2⟩
      · rcases Nat.eq_zero_or_pos s.length with h0 | h0
        · have hs : s = [] := List.eq_nil_of_length_eq_zero h0
          subst hs
          clear h0
          go_wp2_with (at_builtin; refine wpList_apr elemSet rfl _ _ rfl w1.heap.size rfl (HO.out.alloc _) rfl (rd_new _ 1 1 [.int .u16 15] _ (by rfl)) (by simp [Value.oneCell']) (by omega) (by omega) (by simp; omega) ?_)
          intro A' c' w4 hown hb4
          have HO4 : Hid (Rd w4 1 A' 1 (setC [15])) := hD (Rd.own hown)
          have HB4 := hD ((bon HB.out (below_new _ _)).trans hb4)
          clear hown hb4
          go_wp2_with fail
          refine (HLe.out _ A' c' [15] (by simp) (by simp [u16s]) HO4.out).mono ?_
          rintro e w5 ⟨⟨A5, n5, c5, rfl⟩, hb5⟩
          have HB5 := hD hb5
          clear hb5
          go_wp2_with fail
          go_ret
          exact ⟨⟨A5, n5, c5, rfl⟩, bon (bon HB1.out HB4.out) HB5.out⟩
        · have hne : (s.length == 0) = false := by rw [beq_eq_false_iff_ne]; omega
          go_wp2_with fail
          refine (HLe.out _ A c s (by omega) HS.out (Rd.own HO.out)).mono ?_
          rintro e w5 ⟨⟨A5, n5, c5, rfl⟩, hb5⟩
          have HB5 := hD hb5
          clear hb5
          go_wp2_with fail
          go_ret
          exact ⟨⟨A5, n5, c5, rfl⟩, bon (bon HB1.out HB.out) HB5.out⟩
      · rcases Nat.eq_zero_or_pos s.length with h0 | h0
        · have hs : s = [] := List.eq_nil_of_length_eq_zero h0
          subst hs
          clear h0
          go_wp2_with (at_builtin; refine wpList_apr elemSet rfl _ _ rfl w1.heap.size rfl (HO.out.alloc _) rfl (rd_new _ 1 1 [.int .u16 15] _ (by rfl)) (by simp [Value.oneCell']) (by omega) (by omega) (by simp; omega) ?_)
          intro A' c' w4 hown hb4
          have HO4 : Hid (Rd w4 1 A' 1 (setC [15])) := hD (Rd.own hown)
          have HB4 := hD ((bon HB.out (below_new _ _)).trans hb4)
          clear hown hb4
          go_wp2_with fail
          refine (HLe.out _ A' c' [15] (by simp) (by simp [u16s]) HO4.out).mono ?_
          rintro e w5 ⟨⟨A5, n5, c5, rfl⟩, hb5⟩
          have HB5 := hD hb5
          clear hb5
          go_wp2_with fail
          go_ret
          exact ⟨⟨A5, n5, c5, rfl⟩, bon (bon HB1.out HB4.out) HB5.out⟩
        · have hne : (s.length == 0) = false := by rw [beq_eq_false_iff_ne]; omega
          go_wp2_with fail
          refine (HLe.out _ A c s (by omega) HS.out (Rd.own HO.out)).mono ?_
          rintro e w5 ⟨⟨A5, n5, c5, rfl⟩, hb5⟩
          have HB5 := hD hb5
          clear hb5
          go_wp2_with fail
          go_ret
          exact ⟨⟨A5, n5, c5, rfl⟩, bon (bon HB1.out HB.out) HB5.out⟩
set_option maxRecDepth 100000 in
set_option maxHeartbeats 4000000 in
theorem sets5_any (d : Dr) (m : Sl Nat) (w : World) (hm : Rd w 1 m.a m.l.length (setC m.l)) (hu : u16s m.l) (hd : d.mode < 256) : Calls Tryz.prog 54 #[.agg #[.int .u8 (d.kind : Int), .int .u8 (d.n : Int), .int .u8 (d.mode : Int), .slice d.read.a d.read.l.length d.read.c, .slice d.write.a d.write.l.length d.write.c, .slice d.faults.a d.faults.l.length d.faults.c], .slice m.a m.l.length m.c, .int .i64 5] w (Sm w) := by
 have HM := hD hm
 have HU := hD hu
 have d0 : (0 : Int) ≤ (d.mode : Int) := by omega
 have d1 : (d.mode : Int) < 256 := by omega
 have HB1 := hD (below_new w (.cells #[.int .u8 (d.kind : Int), .int .u8 (d.n : Int), .int .u8 (d.mode : Int), .slice d.read.a d.read.l.length d.read.c, .slice d.write.a d.write.l.length d.write.c, .slice d.faults.a d.faults.l.length d.faults.c] 74))
 obtain ⟨w1, hw1⟩ : ∃ w1, w1 = w.alloc (.cells #[.int .u8 (d.kind : Int), .int .u8 (d.n : Int), .int .u8 (d.mode : Int), .slice d.read.a d.read.l.length d.read.c, .slice d.write.a d.write.l.length d.write.c, .slice d.faults.a d.faults.l.length d.faults.c] 74) := ⟨_, rfl⟩
 have HW1 := hD hw1
 rw [← hw1] at HB1
 clear hm hu hw1
 by_cases hmo : (d.mode : Int) % 2 = 1
 · have q1 : ((d.mode : Int) % 2 == 1) = true := by rw [beq_iff_eq]; exact hmo
   clear hmo
   rcases Nat.eq_zero_or_pos m.l.length with h0 | h0
   · have q2 : decide ((0 : Int) < (m.l.length : Int)) = false := by rw [h0]; rfl
     have q3 : decide (0 < m.l.length) = false := by rw [h0]; rfl
     clear h0
     go_enter Tryz.func54, Tryz.ntmps54
     go_wp2_with fail
     refine (choose_any 31 5 _ (by decide)).mono ?_
     rintro e w2 ⟨⟨A, n, c, rfl⟩, hb2⟩
     have HB2 := hD hb2
     clear hb2
     go_wp2_with fail
     go_ret
     exact ⟨⟨A, n, c, rfl⟩, bon (below_new w _) HB2.out⟩
   · obtain ⟨b, off, hA, hg, hcc⟩ := sets_at HM.out h0
     have hx := HU.out _ (List.getElem_mem h0)
     obtain ⟨x, hxe⟩ : ∃ x, x = m.l[0] := ⟨_, rfl⟩
     rw [← hxe] at hcc hx
     have cx : w.cell? ⟨b, off, none⟩ = some (.int .u16 (x : Int)) := by simpa using hcc _ (Below.refl _ _)
     have x0 : (0 : Int) ≤ (x : Int) := by omega
     have x1 : (x : Int) < 65536 := by omega
     have hlt : b < w.heap.size := hg
     have h00 : decide (0 < m.l.length) = true := by simpa using h0
     have hrun : ∀ w', Sem.run Tryz.prog (Instr.indexAt 71 (.slice m.a m.l.length m.c) (.int .i64 0)) w' = .ok (Value.pointer (some ⟨b, off, none⟩)) w' := fun w' => by
      rw [hA]; go_simp
     clear hcc hxe hA
     go_enter Tryz.func54, Tryz.ntmps54
     go_wp2_with fail
     refine (choose_any 31 _ _ (by decide)).mono ?_
     rintro e w2 ⟨⟨A, n, c, rfl⟩, hb2⟩
     have HB2 := hD hb2
     clear hb2
     go_wp2_with fail
     go_ret
     exact ⟨⟨A, n, c, rfl⟩, bon (below_new w _) HB2.out⟩
 · have q1 : ((d.mode : Int) % 2 == 1) = false := by rw [beq_eq_false_iff_ne]; exact hmo
   clear hmo
   go_enter Tryz.func54, Tryz.ntmps54
   go_wp2_with fail
   go_loopw [9, 10] (fun o i wr => ∃ (j : Nat) (q : Value) (s : List Nat), i = .int .i64 j ∧ q = o ∧ j ≤ m.l.length ∧ j ≤ 6 ∧ s.length ≤ j ∧ u16s s ∧ wr.ownsRow w1.heap.size 26 1 q s.length (setC s) ∧ Below w1.heap.size w1 wr) (fun _ i _ => 6 - (intOf i).toNat)
   case atStart => exact ⟨0, _, [], rfl, rfl, by omega, by omega, by simp, by simp [u16s], World.ownsRow_nil _ _ _ _, by rw [HW1.out]; exact Below.refl _ _⟩
   case round =>
    obtain ⟨j, o, s, rfl, rfl, hj, hj6, hsl, hus, how, hbl⟩ := hrel
    have HO := hD how
    have HB := hD hbl
    have HS := hD hus
    have hz := hbl.size
    have hz0 := HB1.out.size
    clear hbl hus
    obtain ⟨A, c, rfl⟩ := ownsRow_form how
    clear how
    have i0' : (0 : Int) ≤ (j : Int) := by omega
    by_cases hlt : j < m.l.length ∧ j < 6
    · obtain ⟨hlt1, hlt2⟩ := hlt
      have i1 : (j : Int) < (m.l.length : Int) := by omega
      have i2 : (j : Int) < 6 := by omega
      obtain ⟨b, off, hA, hg, hcc⟩ := sets_at HM.out hlt1
      obtain ⟨x, hxe⟩ : ∃ x, x = m.l[j] := ⟨_, rfl⟩
      have hx := HU.out _ (List.getElem_mem hlt1)
      rw [← hxe] at hcc hx
      have cx := hcc wr (bon HB1.out HB.out)
      have hrun : ∀ w', Sem.run Tryz.prog (Instr.indexAt 71 (.slice m.a m.l.length m.c) (.int .i64 j)) w' = .ok (Value.pointer (some ⟨b, off + j, none⟩)) w' := fun w' => by
       rw [hA]; go_simp
      obtain ⟨u, hu, he⟩ := and_u16 (x : Int) 31
      have hgr : b < wr.heap.size := by omega
      clear hcc hxe hA
      by_cases hu0 : u = 0
      · subst hu0
        go_wp2_with fail
        go_roundw
        case rel => exact ⟨j + 1, _, s, by go_num, rfl, by omega, by omega, by omega, HS.out, HO.out, HB.out⟩
        case measure => simp [intOf]; omega
      · have e1 : ((u : Int) != 0) = true := by rw [bne_iff_ne]; omega
        have HUu := hD hu
        clear hu0 hu
        go_wp2_with (at_builtin; refine wpList_apr elemSet rfl _ _ rfl w1.heap.size rfl (HO.out.alloc _) rfl (rd_new wr 1 1 [.int .u16 (u : Int)] _ (by rfl)) (by simp [Value.oneCell']) (by omega) (by omega) (by simp; omega) ?_)
        intro A' c' w4 hown hb4
        have HO4 := hD (rdC_app hown)
        have HB4 := hD ((bon HB.out (below_new wr _)).trans hb4)
        clear hown hb4 he e1
        go_wp2_with fail
        go_roundw
        case rel => exact ⟨j + 1, _, s ++ [u], by go_num, by simp, by omega, by omega, by simp; omega, u16s_snoc HS.out HUu.out, HO4.out, HB4.out⟩
        case measure => simp [intOf]; omega
    · have hg : decide (j < m.l.length) = false ∨ (decide (j < m.l.length) = true ∧ decide ((j : Int) < 6) = false) := by
        by_cases h1 : j < m.l.length
        · exact .inr ⟨by simpa using h1, by simp; omega⟩
        · exact .inl (by simp; omega)
      have HLe : Hid (∀ (W : World) (A' : Option Addr) (c' : Nat) (s' : List Nat), s'.length ≤ 7 → u16s s' → Rd W 1 A' s'.length (setC s') → Calls Tryz.prog 90 #[.slice A' s'.length c'] W (Sm W)) := hD (fun W A' c' s' h1 h2 h3 => least_any A' c' s' W h3 h2 (by omega))
      have hs6 : s.length ≤ 6 := by omega
      rcases hg with hg1 | ⟨hg1, hg2⟩
      · rcases Nat.eq_zero_or_pos s.length with h0 | h0
        · have hs : s = [] := List.eq_nil_of_length_eq_zero h0
          subst hs
          clear h0
          go_wp2_with (at_builtin; refine wpList_apr elemSet rfl _ _ rfl w1.heap.size rfl (HO.out.alloc _) rfl (rd_new _ 1 1 [.int .u16 31] _ (by rfl)) (by simp [Value.oneCell']) (by omega) (by omega) (by simp; omega) ?_)
          intro A' c' w4 hown hb4
          have HO4 : Hid (Rd w4 1 A' 1 (setC [31])) := hD (Rd.own hown)
          have HB4 := hD ((bon HB.out (below_new _ _)).trans hb4)
          clear hown hb4
          go_wp2_with fail
          refine (HLe.out _ A' c' [31] (by simp) (by simp [u16s]) HO4.out).mono ?_
          rintro e w5 ⟨⟨A5, n5, c5, rfl⟩, hb5⟩
          have HB5 := hD hb5
          clear hb5
          go_wp2_with fail
          go_ret
          exact ⟨⟨A5, n5, c5, rfl⟩, bon (bon HB1.out HB4.out) HB5.out⟩
        · have hne : (s.length == 0) = false := by rw [beq_eq_false_iff_ne]; omega
          go_wp2_with fail
          refine (HLe.out _ A c s (by omega) HS.out (Rd.own HO.out)).mono ?_
          rintro e w5 ⟨⟨A5, n5, c5, rfl⟩, hb5⟩
          have HB5 := hD hb5
          clear hb5
          go_wp2_with fail
          go_ret
          exact ⟨⟨A5, n5, c5, rfl⟩, bon (bon HB1.out HB.out) HB5.out⟩
      · rcases Nat.eq_zero_or_pos s.length with h0 | h0
        · have hs : s = [] := List.eq_nil_of_length_eq_zero h0
          subst hs
          clear h0
          go_wp2_with (at_builtin; refine wpList_apr elemSet rfl _ _ rfl w1.heap.size rfl (HO.out.alloc _) rfl (rd_new _ 1 1 [.int .u16 31] _ (by rfl)) (by simp [Value.oneCell']) (by omega) (by omega) (by simp; omega) ?_)
          intro A' c' w4 hown hb4
          have HO4 : Hid (Rd w4 1 A' 1 (setC [31])) := hD (Rd.own hown)
          have HB4 := hD ((bon HB.out (below_new _ _)).trans hb4)
          clear hown hb4
          go_wp2_with fail
          refine (HLe.out _ A' c' [31] (by simp) (by simp [u16s]) HO4.out).mono ?_
          rintro e w5 ⟨⟨A5, n5, c5, rfl⟩, hb5⟩
          have HB5 := hD hb5
          clear hb5
          go_wp2_with fail
          go_ret
          exact ⟨⟨A5, n5, c5, rfl⟩, bon (bon HB1.out HB4.out) HB5.out⟩
        · have hne : (s.length == 0) = false := by rw [beq_eq_false_iff_ne]; omega
          go_wp2_with fail
          refine (HLe.out _ A c s (by omega) HS.out (Rd.own HO.out)).mono ?_
          rintro e w5 ⟨⟨A5, n5, c5, rfl⟩, hb5⟩
          have HB5 := hD hb5
          clear hb5
          go_wp2_with fail
          go_ret
          exact ⟨⟨A5, n5, c5, rfl⟩, bon (bon HB1.out HB.out) HB5.out⟩
open Go.RowKit
def fltC (x : Nat × Nat) : List Value := [.int .u16 (x.1 : Int), .int .u16 (x.2 : Int)]
theorem fltC_len (x : Nat × Nat) : (fltC x).length = 2 := rfl
theorem or_u16 (a b : Int) : ∃ v : Nat, v < 65536 ∧ bits .or .u16 a b = (v : Int) := u16_wrap _
def orN (x : Nat × Nat) : Nat := (bits .or .u16 (x.1 : Int) (x.2 : Int)).toNat
theorem orN_is (x : Nat × Nat) : bits .or .u16 (x.1 : Int) (x.2 : Int) = (orN x : Int) := by
 obtain ⟨v, _, h⟩ := or_u16 (x.1 : Int) (x.2 : Int)
 unfold orN
 rw [h]
 simp
def RetU (n : Nat) (w : World) (e : Ending) (w' : World) : Prop := e = .returned (.int .u16 (n : Int)) ∧ Below w.heap.size w w'
set_option maxRecDepth 100000 in
set_option maxHeartbeats 2000000 in
theorem faulty_any (x : Nat × Nat) (w : World) : Calls Tryz.prog 148 #[.agg #[.int .u16 (x.1 : Int), .int .u16 (x.2 : Int)]] w (RetU (orN x) w) := by
 have he := orN_is x
 go_enter Tryz.func148, Tryz.ntmps148
 go_wp2_with fail
 go_ret
 exact ⟨rfl, below_new w _⟩
theorem within_b {P : Program} {k : FuncId} {args : Array Value} {w : World} {v : Ending} (h : Calls P k args w (fun e w' => e = v ∧ w = w')) : Calls P k args w (fun e w' => e = v ∧ Below w.heap.size w w') := h.mono fun _ _ ⟨a, b⟩ => ⟨a, b ▸ Below.refl _ _⟩
def covB (x y : Nat × Nat) : Bool := inB y.1 x.1 && inB (orN y) (orN x)
def Bx2 (w : World) (x y : List Value) (T : TypeId) (w' : World) : Prop := Below (w.heap.size + 2) ((w.alloc (.cells x.toArray T)).alloc (.cells y.toArray T)) w'
theorem bx2_low {w w' : World} {x y : List Value} {T : TypeId} (h : Bx2 w x y T w') : Below w.heap.size w w' :=
 (bon (below_new w _) (below_new _ _)).trans (Below.mono h (by omega))
theorem bx2_size {w w' : World} {x y : List Value} {T : TypeId} (h : Bx2 w x y T w') : w.heap.size + 2 ≤ w'.heap.size := by
 have := Below.size h; simpa using this
theorem bx2_x {w w' : World} {x y : List Value} {T : TypeId} (h : Bx2 w x y T w') (j : Nat) (v : Value) (hj : x[j]? = some v) : w'.cell? ⟨w.heap.size, j, none⟩ = some v := by
 have h1 := Below.cell h (p := ⟨w.heap.size, j, none⟩) (by show w.heap.size < w.heap.size + 2; omega)
 have h2 := (below_new (w.alloc (.cells x.toArray T)) (.cells y.toArray T)).cell (p := ⟨w.heap.size, j, none⟩) (by simp)
 have h3 := cell_new w x T w.heap.size rfl j v hj
 rw [add_off, Nat.zero_add] at h3
 rw [h1, h2, h3]
theorem bx2_y {w w' : World} {x y : List Value} {T : TypeId} (h : Bx2 w x y T w') (j : Nat) (v : Value) (hj : y[j]? = some v) : w'.cell? ⟨w.heap.size + 1, j, none⟩ = some v := by
 have h1 := Below.cell h (p := ⟨w.heap.size + 1, j, none⟩) (by show w.heap.size + 1 < w.heap.size + 2; omega)
 have h3 := cell_new (w.alloc (.cells x.toArray T)) y T (w.heap.size + 1) (by simp) j v hj
 rw [add_off, Nat.zero_add] at h3
 rw [h1, h3]
theorem bx2_on {w w1 w2 : World} {x y : List Value} {T : TypeId} (h : Bx2 w x y T w1) (k : Below w1.heap.size w1 w2) : Bx2 w x y T w2 := Below.trans h (k.mono (bx2_size h))
theorem bx2_new (w : World) (x y : List Value) (T : TypeId) : Bx2 w x y T ((w.alloc (.cells x.toArray T)).alloc (.cells y.toArray T)) := Below.refl _ _
set_option maxRecDepth 100000 in
set_option maxHeartbeats 4000000 in
theorem covers_any (x y : Nat × Nat) (w : World) : Calls Tryz.prog 124 #[.agg #[.int .u16 (x.1 : Int), .int .u16 (x.2 : Int)], .agg #[.int .u16 (y.1 : Int), .int .u16 (y.2 : Int)]] w (RetBool (covB x y) w) := by
 have HC : Hid (∀ w1, Bx2 w (fltC x) (fltC y) 159 w1 → Bx2 w (fltC x) (fltC y) 159 w1 ∧ w1.cell? ⟨w.heap.size, 0, none⟩ = some (.int .u16 (x.1 : Int)) ∧ w1.cell? ⟨w.heap.size, 1, none⟩ = some (.int .u16 (x.2 : Int)) ∧ w1.cell? ⟨w.heap.size + 1, 0, none⟩ = some (.int .u16 (y.1 : Int)) ∧ w1.cell? ⟨w.heap.size + 1, 1, none⟩ = some (.int .u16 (y.2 : Int))) := hD (fun w1 h => ⟨h, bx2_x h 0 _ rfl, bx2_x h 1 _ rfl, bx2_y h 0 _ rfl, bx2_y h 1 _ rfl⟩)
 have H0 := hD (bx2_new w (fltC x) (fltC y) 159)
 have HW : Hid (∀ (a b : Nat) (w1 : World), Calls Tryz.prog 120 #[.int .u16 (a : Int), .int .u16 (b : Int)] w1 (fun e w' => e = .returned (.bool (inB a b)) ∧ w1 = w')) := hD (fun a b w1 => within_any a b w1)
 have HF : Hid (∀ (z : Nat × Nat) (w1 : World) (R : Prop), (Bx2 w (fltC x) (fltC y) 159 w1 ∧ R) → Calls Tryz.prog 148 #[.agg #[.int .u16 (z.1 : Int), .int .u16 (z.2 : Int)]] w1 (fun e w' => e = .returned (.int .u16 (orN z : Int)) ∧ Bx2 w (fltC x) (fltC y) 159 w')) := hD (fun z w1 _ h => (faulty_any z w1).mono fun _ _ ⟨he, hb⟩ => ⟨he, bx2_on h.1 hb⟩)
 cases h1 : inB y.1 x.1
 · have HR : Hid (covB x y = false) := hD (by unfold covB; rw [h1]; rfl)
   have HW1 : Hid (∀ w1 : World, Calls Tryz.prog 120 #[.int .u16 (y.1 : Int), .int .u16 (x.1 : Int)] w1 (fun e w' => e = .returned (.bool false) ∧ w1 = w')) := hD (fun w1 => by rw [← h1]; exact HW.out _ _ _)
   clear h1
   go_enter Tryz.func124, Tryz.ntmps124
   go_wp2_with fail
   have HX : Hid (Bx2 w (fltC x) (fltC y) 159 ((w.alloc (.cells #[.int .u16 (x.1 : Int), .int .u16 (x.2 : Int)] 159)).alloc (.cells #[.int .u16 (y.1 : Int), .int .u16 (y.2 : Int)] 159)).drew) := hD (bx2_on H0.out (Below.refl _ _).drew)
   generalize hv : ((w.alloc (.cells #[.int .u16 (x.1 : Int), .int .u16 (x.2 : Int)] 159)).alloc (.cells #[.int .u16 (y.1 : Int), .int .u16 (y.2 : Int)] 159)).drew = v0 at HX
   have hS0 : Bx2 w (fltC x) (fltC y) 159 v0 ∧ v0.cell? ⟨w.heap.size, 0, none⟩ = some (.int .u16 (x.1 : Int)) ∧ v0.cell? ⟨w.heap.size, 1, none⟩ = some (.int .u16 (x.2 : Int)) ∧ v0.cell? ⟨w.heap.size + 1, 0, none⟩ = some (.int .u16 (y.1 : Int)) ∧ v0.cell? ⟨w.heap.size + 1, 1, none⟩ = some (.int .u16 (y.2 : Int)) := HC.out _ HX.out
   refine wp_region_held_drew (S := fun W => Bx2 w (fltC x) (fltC y) 159 W ∧ W.cell? ⟨w.heap.size, 0, none⟩ = some (.int .u16 (x.1 : Int)) ∧ W.cell? ⟨w.heap.size, 1, none⟩ = some (.int .u16 (x.2 : Int)) ∧ W.cell? ⟨w.heap.size + 1, 0, none⟩ = some (.int .u16 (y.1 : Int)) ∧ W.cell? ⟨w.heap.size + 1, 1, none⟩ = some (.int .u16 (y.2 : Int))) (by kernel_rfl) (by rw [hv]; exact hS0) (fun hHeld => ?_)
   rw [hv] at hHeld ⊢
   clear hv
   refine takes [0,1,2,3] ?_
   refine tkr 4 rfl (fun K hK => ?_)
   go_simp
   go_at_call 120
   refine (within_b (HW1.out _)).mono ?_
   rintro e v1 ⟨rfl, hs⟩
   have HX := hD (bx2_on HX.out hs)
   clear hs
   go_wp2_with fail
   have hS1 : Bx2 w (fltC x) (fltC y) 159 v1 ∧ v1.cell? ⟨w.heap.size, 0, none⟩ = some (.int .u16 (x.1 : Int)) ∧ v1.cell? ⟨w.heap.size, 1, none⟩ = some (.int .u16 (x.2 : Int)) ∧ v1.cell? ⟨w.heap.size + 1, 0, none⟩ = some (.int .u16 (y.1 : Int)) ∧ v1.cell? ⟨w.heap.size + 1, 1, none⟩ = some (.int .u16 (y.2 : Int)) := HC.out _ HX.out
   refine hK.out _ _ hS1 (fun hHeld => ?_)
   clear hK K
   try simp only [Act.put,qk1,qk2,qk3,qk4,qk5,qk6]
   refine takes [5,6,7,8,9,10,11,12] ?_
   refine wpAnyH_done (by kernel_rfl) ?_ _
   go_wp2_with fail
   go_ret
   exact ret_bl HR.out (bx2_low HX.out)
 · have HR : Hid (covB x y = inB (orN y) (orN x)) := hD (by unfold covB; rw [h1]; simp)
   have HW1 : Hid (∀ w1 : World, Calls Tryz.prog 120 #[.int .u16 (y.1 : Int), .int .u16 (x.1 : Int)] w1 (fun e w' => e = .returned (.bool true) ∧ w1 = w')) := hD (fun w1 => by rw [← h1]; exact HW.out _ _ _)
   clear h1
   go_enter Tryz.func124, Tryz.ntmps124
   go_wp2_with fail
   go_region_held3 (fun w1 => Bx2 w (fltC x) (fltC y) 159 w1 ∧ w1.cell? ⟨w.heap.size, 0, none⟩ = some (.int .u16 (x.1 : Int)) ∧ w1.cell? ⟨w.heap.size, 1, none⟩ = some (.int .u16 (x.2 : Int)) ∧ w1.cell? ⟨w.heap.size + 1, 0, none⟩ = some (.int .u16 (y.1 : Int)) ∧ w1.cell? ⟨w.heap.size + 1, 1, none⟩ = some (.int .u16 (y.2 : Int)))
    (first | exact HC.out _ H0.out | exact HC.out _ (bx2_on H0.out (Below.refl _ _).drew) | exact HC.out _ ‹Bx2 _ _ _ _ _› | assumption)
    (first
     | (go_at_call 120; refine (HW1.out _).mono ?_; rintro e w2 ⟨rfl, rfl⟩)
     | (go_at_call 120; refine (HW.out _ _ _).mono ?_; rintro e w2 ⟨rfl, rfl⟩)
     | (go_at_call 148; refine (HF.out _ _ _ (by assumption)).mono ?_; rintro e w3 ⟨rfl, b3⟩))
   all_goals
    go_wp2_with fail
    go_ret
    exact ret_bl HR.out (bx2_low (by first | assumption | exact (‹Bx2 _ _ _ _ _ ∧ _›).1))
def cmpS (a b : Nat) : Int := if a = b then 0 else if szB a < szB b ∨ (szB a = szB b ∧ a < b) then -1 else 1
set_option maxRecDepth 100000 in
set_option maxHeartbeats 2000000 in
theorem compare_any (a b : Nat) (w : World) (ha : a < 65536) (hb : b < 65536) : Calls Tryz.prog 149 #[.int .u16 (a : Int), .int .u16 (b : Int)] w (RetInt (cmpS a b) w) := by
 have HA : Hid (∀ w, Calls Tryz.prog 121 #[.int .u16 (a : Int)] w (RetInt (szB a : Int) w)) := hD (fun w => count_any a w ha)
 have HB : Hid (∀ w, Calls Tryz.prog 121 #[.int .u16 (b : Int)] w (RetInt (szB b : Int) w)) := hD (fun w => count_any b w hb)
 by_cases hab : a = b
 · have q1 : ((a : Int) == (b : Int)) = true := by rw [hab]; simp
   have HF : Hid (cmpS a b = 0) := hD (by unfold cmpS; rw [if_pos hab])
   clear hab
   go_enter Tryz.func149, Tryz.ntmps149
   go_wp2_with fail
   go_ret
   exact ret_in HF.out (Below.refl _ _)
 · have q1 : ((a : Int) == (b : Int)) = false := by rw [beq_eq_false_iff_ne]; omega
   have HF : Hid (cmpS a b = if szB a < szB b ∨ (szB a = szB b ∧ a < b) then -1 else 1) := hD (by unfold cmpS; rw [if_neg hab])
   clear hab
   rcases Nat.lt_trichotomy (szB a) (szB b) with h | h | h
   · have HG : Hid (cmpS a b = -1) := hD (by rw [HF.out, if_pos (.inl h)])
     have q2 : decide (szB a < szB b) = true := by simpa using h
     clear h HF
     go_enter Tryz.func149, Tryz.ntmps149
     go_wp2_with fail
     refine (HA.out _).mono ?_
     rintro e w2 ⟨rfl, b2⟩
     go_wp2_with fail
     refine (HB.out _).mono ?_
     rintro e w3 ⟨rfl, b3⟩
     go_wp2_with fail
     go_ret
     exact ret_in HG.out (bon b2 b3)
   · have q2 : decide (szB a < szB b) = false := by simp; omega
     have q3 : (szB a == szB b) = true := by simpa using h
     have q5 : ((szB a : Int) == (szB b : Int)) = true := by rw [h]; simp
     by_cases hl : a < b
     · have HG : Hid (cmpS a b = -1) := hD (by rw [HF.out, if_pos (.inr ⟨h, hl⟩)])
       have q4 : decide (a < b) = true := by simpa using hl
       clear h HF hl
       go_enter Tryz.func149, Tryz.ntmps149
       go_wp2_with fail
       refine (HA.out _).mono ?_
       rintro e w2 ⟨rfl, b2⟩
       go_wp2_with fail
       refine (HB.out _).mono ?_
       rintro e w3 ⟨rfl, b3⟩
       go_wp2_with fail
       refine (HA.out _).mono ?_
       rintro e w4 ⟨rfl, b4⟩
       go_wp2_with fail
       refine (HB.out _).mono ?_
       rintro e w5 ⟨rfl, b5⟩
       go_wp2_with fail
       go_ret
       exact ret_in HG.out (bon (bon (bon b2 b3) b4) b5)
     · have HG : Hid (cmpS a b = 1) := hD (by rw [HF.out, if_neg (by omega)])
       have q4 : decide (a < b) = false := by simpa using hl
       clear h HF hl
       go_enter Tryz.func149, Tryz.ntmps149
       go_wp2_with fail
       refine (HA.out _).mono ?_
       rintro e w2 ⟨rfl, b2⟩
       go_wp2_with fail
       refine (HB.out _).mono ?_
       rintro e w3 ⟨rfl, b3⟩
       go_wp2_with fail
       refine (HA.out _).mono ?_
       rintro e w4 ⟨rfl, b4⟩
       go_wp2_with fail
       refine (HB.out _).mono ?_
       rintro e w5 ⟨rfl, b5⟩
       go_wp2_with fail
       go_ret
       exact ret_in HG.out (bon (bon (bon b2 b3) b4) b5)
   · have HG : Hid (cmpS a b = 1) := hD (by rw [HF.out, if_neg (by omega)])
     have q2 : decide (szB a < szB b) = false := by simp; omega
     have q3 : (szB a == szB b) = false := by rw [beq_eq_false_iff_ne]; omega
     have q5 : ((szB a : Int) == (szB b : Int)) = false := by rw [beq_eq_false_iff_ne]; omega
     clear h HF
     go_enter Tryz.func149, Tryz.ntmps149
     go_wp2_with fail
     refine (HA.out _).mono ?_
     rintro e w2 ⟨rfl, b2⟩
     go_wp2_with fail
     refine (HB.out _).mono ?_
     rintro e w3 ⟨rfl, b3⟩
     go_wp2_with fail
     refine (HA.out _).mono ?_
     rintro e w4 ⟨rfl, b4⟩
     go_wp2_with fail
     refine (HB.out _).mono ?_
     rintro e w5 ⟨rfl, b5⟩
     go_wp2_with fail
     go_ret
     exact ret_in HG.out (bon (bon (bon b2 b3) b4) b5)
def cmpF (x y : Nat × Nat) : Int := if cmpS x.1 y.1 = 0 then cmpS x.2 y.2 else cmpS x.1 y.1
set_option maxRecDepth 100000 in
set_option maxHeartbeats 2000000 in
theorem compareF_any (x y : Nat × Nat) (w : World) (h1 : x.1 < 65536) (h2 : x.2 < 65536) (h3 : y.1 < 65536) (h4 : y.2 < 65536) : Calls Tryz.prog 125 #[.agg #[.int .u16 (x.1 : Int), .int .u16 (x.2 : Int)], .agg #[.int .u16 (y.1 : Int), .int .u16 (y.2 : Int)]] w (RetInt (cmpF x y) w) := by
 have HB0 := hD (bx2_new w (fltC x) (fltC y) 159)
 have HC1 : Hid (∀ w1, Calls Tryz.prog 149 #[.int .u16 (x.1 : Int), .int .u16 (y.1 : Int)] w1 (RetInt (cmpS x.1 y.1) w1)) := hD (fun w1 => compare_any _ _ w1 h1 h3)
 have HC2 : Hid (∀ w1, Calls Tryz.prog 149 #[.int .u16 (x.2 : Int), .int .u16 (y.2 : Int)] w1 (RetInt (cmpS x.2 y.2) w1)) := hD (fun w1 => compare_any _ _ w1 h2 h4)
 by_cases h0 : cmpS x.1 y.1 = 0
 · have HF : Hid (cmpF x y = cmpS x.2 y.2) := hD (by unfold cmpF; rw [if_pos h0])
   rw [h0] at HC1
   clear h0
   go_enter Tryz.func125, Tryz.ntmps125
   go_wp2_with fail
   refine (HC1.out _).mono ?_
   rintro e w2 ⟨rfl, b2⟩
   have H2 := hD (bx2_on HB0.out b2)
   have x1 := bx2_x H2.out 1 _ rfl
   have y1 := bx2_y H2.out 1 _ rfl
   have hz := bx2_size H2.out
   have hz0 : w.heap.size < w2.heap.size := by omega
   have hz1 : w.heap.size + 1 < w2.heap.size := by omega
   clear b2
   go_wp2_with fail
   refine (HC2.out _).mono ?_
   rintro e w3 ⟨rfl, b3⟩
   go_wp2_with fail
   go_ret
   exact ret_in HF.out (bon (bx2_low H2.out) b3)
 · have HF : Hid (cmpF x y = cmpS x.1 y.1) := hD (by unfold cmpF; rw [if_neg h0])
   have q1 : (cmpS x.1 y.1 != 0) = true := by rw [bne_iff_ne]; exact h0
   have q2 : (cmpS x.1 y.1 == 0) = false := by rw [beq_eq_false_iff_ne]; exact h0
   clear h0
   go_enter Tryz.func125, Tryz.ntmps125
   go_wp2_with fail
   refine (HC1.out _).mono ?_
   rintro e w2 ⟨rfl, b2⟩
   have H2 := hD (bx2_on HB0.out b2)
   clear b2
   go_wp2_with fail
   go_ret
   exact ret_in HF.out (bx2_low H2.out)
open Go.RowKit
def flts (l : List (Nat × Nat)) : Prop := ∀ x ∈ l, x.1 < 65536 ∧ x.2 < 65536
theorem flt_drop (l : List (Nat × Nat)) : ∀ k, k ≤ l.length → (l.flatMap fltC).drop (k * 2) = (l.drop k).flatMap fltC := by
 induction l with
 | nil => intro k; simp
 | cons x r ih =>
  intro k hk
  cases k with
  | zero => simp
  | succ k =>
   have h1 : (k + 1) * 2 = k * 2 + 2 := by omega
   rw [List.drop_succ_cons, ← ih k (by simpa using hk), h1, List.flatMap_cons]
   simp only [fltC, List.cons_append, List.nil_append, List.drop_succ_cons]
theorem flt_take (l : List (Nat × Nat)) : ∀ k, k ≤ l.length → (l.flatMap fltC).take (k * 2) = (l.take k).flatMap fltC := by
 induction l with
 | nil => intro k; simp
 | cons x r ih =>
  intro k hk
  cases k with
  | zero => simp
  | succ k =>
   have h1 : (k + 1) * 2 = k * 2 + 2 := by omega
   rw [List.take_succ_cons, List.flatMap_cons, List.flatMap_cons, ← ih k (by simpa using hk), h1]
   simp only [fltC, List.cons_append, List.nil_append, List.take_succ_cons]
theorem flt_len (l : List (Nat × Nat)) : (l.flatMap fltC).length = l.length * 2 := flat_len fltC 2 fltC_len l
theorem flt_pre {w : World} {A : Option Addr} {l : List (Nat × Nat)} (h : Rd w 2 A l.length (l.flatMap fltC)) (k : Nat) (hk : k ≤ l.length) : Rd w 2 A k ((l.take k).flatMap fltC) := by
 have h2 : (l.take k).length = k := by simp; omega
 refine ⟨by rw [flt_len, h2], fun hp => ?_⟩
 rw [flt_len, h2] at hp
 obtain ⟨b, o, e, hb, hc⟩ := h.cells (by rw [flt_len]; omega)
 refine ⟨b, o, e, hb, fun j u hu => hc j u ?_⟩
 rw [← flt_take l k hk, List.getElem?_take] at hu
 split at hu
 · exact hu
 · simp at hu
theorem flt_post {w : World} {A : Option Addr} {c : Nat} {l : List (Nat × Nat)} (h : Rd w 2 A l.length (l.flatMap fltC)) (k : Nat) (hk : k ≤ l.length) (hc : l.length ≤ c) : Rd w 2 (if c = k then A else A.map (·.add (k * 2))) (l.length - k) ((l.drop k).flatMap fltC) := by
 have h2 : (l.drop k).length = l.length - k := by simp
 refine ⟨by rw [flt_len, h2], fun hp => ?_⟩
 rw [flt_len, h2] at hp
 obtain ⟨b, o, e, hb, hc'⟩ := h.cells (by rw [flt_len]; omega)
 subst e
 rw [if_neg (by omega)]
 refine ⟨b, o + k * 2, by simp [add_plain'], hb, fun j u hu => ?_⟩
 rw [← flt_drop l k hk, List.getElem?_drop] at hu
 rw [Nat.add_assoc]
 exact hc' _ u hu
theorem flt_run_pre (A : Option Addr) (n c k : Nat) (h : k ≤ c) (hA : A.map (·.add 0) = A) (W : World) : (Instr.slice 72 (.slice A n c) none (some (.int .i64 (k : Int))) none).run Tryz.prog W = .ok (.slice A k c) W := by
 have ht : Tryz.prog.underlying 72 = some (.slice (Tryz.prog.elem 72)) := by kernel_rfl
 have he : Tryz.prog.elem 72 = 159 := by kernel_rfl
 rw [run_slice_h _ _ _ _ _ ht .i64 (k : Int) (by omega) (by omega), he, Tryz.sizeOf159]
 simp only [Result.andThen, sliced, Int.toNat_natCast, Nat.zero_mul, Nat.sub_zero, hA, ite_self]
theorem flt_run_post (A : Option Addr) (n c k : Nat) (h : k ≤ n) (W : World) : (Instr.slice 72 (.slice A n c) (some (.int .i64 (k : Int))) none none).run Tryz.prog W = .ok (.slice (if c = k then A else A.map (·.add (k * 2))) (n - k) (c - k)) W := by
 have ht : Tryz.prog.underlying 72 = some (.slice (Tryz.prog.elem 72)) := by kernel_rfl
 have he : Tryz.prog.elem 72 = 159 := by kernel_rfl
 rw [run_slice_l _ _ _ _ _ ht .i64 (k : Int) (by omega) (by omega), he, Tryz.sizeOf159]
 simp only [Result.andThen, sliced, Int.toNat_natCast]
theorem own_capA {w : World} {base e k n c : Nat} {A : Option Addr} {xs : List Value} (h : w.ownsRow base e k (.slice A n c) n xs) : n ≤ c ∧ A.map (·.add 0) = A := by
 rcases h.2 with ⟨h1, h2⟩ | ⟨g, cap, cur, hv, _, _, hc, _⟩
 · injection h1 with e1 e2 e3; subst e1 e2; exact ⟨by omega, rfl⟩
 · injection hv with e1 e2 e3; subst e1 e3; exact ⟨hc, by simp [add_plain']⟩
theorem flts_at {l : List (Nat × Nat)} (h : flts l) {k : Nat} (hk : k < l.length) : l[k].1 < 65536 ∧ l[k].2 < 65536 := h _ (List.getElem_mem hk)
theorem flt_at {w : World} {A : Option Addr} {l : List (Nat × Nat)} (h : Rd w 2 A l.length (l.flatMap fltC)) {k : Nat} (hk : k < l.length) : ∃ b o, A = some ⟨b, o, none⟩ ∧ b < w.heap.size ∧ ∀ w', Below w.heap.size w w' → w'.cell? ⟨b, o + k * 2, none⟩ = some (.int .u16 (l[k].1 : Int)) ∧ w'.cell? ⟨b, o + k * 2 + 1, none⟩ = some (.int .u16 (l[k].2 : Int)) := by
 obtain ⟨b, o, e, hb, hc⟩ := h.at fltC_len (by omega) hk
 exact ⟨b, o, e, hb, fun w' hw => ⟨by simpa using hc w' hw 0 _ rfl, hc w' hw 1 _ rfl⟩⟩
open Go.RowKit
theorem flt_one {l : List (Nat × Nat)} : ∀ u ∈ l.flatMap fltC, u.oneCell' = true := fun u hu => by
 obtain ⟨x, _, h⟩ := List.mem_flatMap.1 hu
 simp [fltC] at h
 rcases h with h | h <;> subst h <;> rfl
theorem flt_one1 (x : Nat × Nat) : ∀ u ∈ fltC x, u.oneCell' = true := fun u h => by
 simp [fltC] at h
 rcases h with h | h <;> subst h <;> rfl
theorem run_ne_flt (x y : Nat × Nat) (w : World) : (binOp .neq 159 (.agg #[.int .u16 (x.1 : Int), .int .u16 (x.2 : Int)]) (.agg #[.int .u16 (y.1 : Int), .int .u16 (y.2 : Int)])).run Tryz.prog w = .ok (.bool (!(decide (x.1 = y.1) && decide (x.2 = y.2)))) w := by
 rw [run_neq_struct]
 have u3 := Tryz.underlying26
 have i3 := Tryz.isAgg26
 have z3 := Tryz.sizeOf26
 have hS : Tryz.prog.underlying 159 = some (.struct (Tryz.prog.fieldsOf 159)) := by kernel_rfl
 have hp : Tryz.prog.stoodInHeld 159 = false := by kernel_rfl
 rw [show (10000 : Nat) = 9999 + 1 from rfl, run_equalIn_agg w 9999 159 _ _ hS hp]
 simp only [Program.fieldsOf, Tryz.underlying159]
 go_simp
 obtain ⟨a1, a2⟩ := x
 obtain ⟨b1, b2⟩ := y
 by_cases h1 : a1 = b1 <;> by_cases h2 : a2 = b2 <;> simp [h1, h2] <;> first | omega | (intro _; omega)
theorem own_some {w : World} {base e k n c : Nat} {A : Option Addr} {xs : List Value} (h : w.ownsRow base e k (.slice A n c) n xs) (hn : 0 < n) : ∃ g, A = some ⟨g, 0, none⟩ := by
 obtain ⟨g, cap, e, _⟩ := h.form hn
 injection e with e1
 exact ⟨g, e1⟩
set_option maxRecDepth 100000 in
set_option maxHeartbeats 2000000 in
theorem normal_any (A0 : Option Addr) (c0 : Nat) (l : List (Nat × Nat)) (w : World) (hr : Rd w 2 A0 l.length (l.flatMap fltC)) (hu : flts l) (hn : l.length ≤ 900) : Calls Tryz.prog 91 #[.slice A0 l.length c0] w (Sm w) := by
 have HR := hD hr
 have HU := hD hu
 clear hr hu
 go_enter Tryz.func91, Tryz.ntmps91
 go_wp2_with fail
 go_loopw [3, 4] (fun o i wr => ∃ (j : Nat) (q : Value) (s : List (Nat × Nat)) (base : Nat), i = .int .i64 j ∧ q = o ∧ j ≤ l.length ∧ s.length ≤ j ∧ flts s ∧ wr.ownsRow base 159 2 q s.length (s.flatMap fltC) ∧ Below w.heap.size w wr) (fun _ i _ => l.length - (intOf i).toNat)
 case atStart => exact ⟨0, _, [], 0, rfl, rfl, by omega, by simp, by simp [flts], World.ownsRow_nil _ _ _ _, Below.refl _ _⟩
 case round =>
  obtain ⟨j, o, s, base, rfl, rfl, hj, hsl, hfs, how, hbl⟩ := hrel
  have HO := hD how
  have HB := hD hbl
  have HFs := hD hfs
  have hz := hbl.size
  clear hbl hfs
  obtain ⟨A, c, rfl⟩ := ownsRow_form how
  clear how
  by_cases hlt : j < l.length
  · have i0' : (0 : Int) ≤ (j : Int) := by omega
    have i1 : (j : Int) < (l.length : Int) := by omega
    obtain ⟨b, off, rfl, hg, hcc⟩ := flt_at HR.out hlt
    have hxb := flts_at HU.out hlt
    obtain ⟨x, hxe⟩ : ∃ x, x = l[j] := ⟨_, rfl⟩
    rw [← hxe] at hcc hxb
    have HCC := hD hcc
    have hgr : b < wr.heap.size := by omega
    clear hcc hxe
    go_wp2_with fail
    go_loopw [5, 6] (fun m i w2 => ∃ (k : Nat) (kb : Bool), i = .int .i64 k ∧ m = .bool kb ∧ k ≤ l.length ∧ Below wr.heap.size wr w2) (fun _ i _ => l.length - (intOf i).toNat)
    case atStart => exact ⟨0, true, rfl, rfl, by omega, Below.refl _ _⟩
    case round =>
     rename World => w2
     obtain ⟨k, kb, rfl, rfl, hk, hb2⟩ := hrel
     have HB2 := hD hb2
     have hz2 := hb2.size
     clear hb2
     have k0' : (0 : Int) ≤ (k : Int) := by omega
     by_cases hkl : k < l.length
     · have k1 : (k : Int) < (l.length : Int) := by omega
       obtain ⟨b9, off9, e9, hg9, hck⟩ := flt_at HR.out hkl
       injection e9 with e9
       injection e9 with e9 e9'
       subst e9 e9'
       obtain ⟨y, hye⟩ : ∃ y, y = l[k] := ⟨_, rfl⟩
       rw [← hye] at hck
       have HCK := hD hck
       clear hck hg9 hye
       have hcv := fun W => covers_any y x W
       cases hbe : covB y x
       · rw [hbe] at hcv
         have HCv := hD hcv
         clear hcv hbe
         go_wp2_with fail
         refine wp_region_noPanic ?_
         have HX : Hid (Below wr.heap.size wr w2.drew) := hD (HB2.out.drew)
         generalize hv : w2.drew = v0 at HX
         have hS0 : Below wr.heap.size wr v0 ∧ v0.cell? ⟨b, off + k * 2, none⟩ = some (.int .u16 (y.1 : Int)) ∧ v0.cell? ⟨b, off + k * 2 + 1, none⟩ = some (.int .u16 (y.2 : Int)) ∧ v0.cell? ⟨b, off + j * 2, none⟩ = some (.int .u16 (x.1 : Int)) ∧ v0.cell? ⟨b, off + j * 2 + 1, none⟩ = some (.int .u16 (x.2 : Int)) := ⟨HX.out, (HCK.out _ (bon HB.out HX.out)).1, (HCK.out _ (bon HB.out HX.out)).2, (HCC.out _ (bon HB.out HX.out)).1, (HCC.out _ (bon HB.out HX.out)).2⟩
         refine wp_region_held_drew (S := fun W => Below wr.heap.size wr W ∧ W.cell? ⟨b, off + k * 2, none⟩ = some (.int .u16 (y.1 : Int)) ∧ W.cell? ⟨b, off + k * 2 + 1, none⟩ = some (.int .u16 (y.2 : Int)) ∧ W.cell? ⟨b, off + j * 2, none⟩ = some (.int .u16 (x.1 : Int)) ∧ W.cell? ⟨b, off + j * 2 + 1, none⟩ = some (.int .u16 (x.2 : Int))) (by kernel_rfl) (by rw [hv]; exact hS0) (fun hHeld => ?_)
         rw [hv] at hHeld ⊢
         clear hv
         refine takes [0,1,2,3,4,5,6,7] ?_
         refine tkr 8 rfl (fun K hK => ?_)
         go_simp
         go_at_call 124
         refine (HCv.out _).mono ?_
         rintro e v1 ⟨rfl, hs⟩
         have HX := hD (bon HX.out hs)
         clear hs
         go_wp2_with fail
         have hS1 : Below wr.heap.size wr v1 ∧ v1.cell? ⟨b, off + k * 2, none⟩ = some (.int .u16 (y.1 : Int)) ∧ v1.cell? ⟨b, off + k * 2 + 1, none⟩ = some (.int .u16 (y.2 : Int)) ∧ v1.cell? ⟨b, off + j * 2, none⟩ = some (.int .u16 (x.1 : Int)) ∧ v1.cell? ⟨b, off + j * 2 + 1, none⟩ = some (.int .u16 (x.2 : Int)) := ⟨HX.out, (HCK.out _ (bon HB.out HX.out)).1, (HCK.out _ (bon HB.out HX.out)).2, (HCC.out _ (bon HB.out HX.out)).1, (HCC.out _ (bon HB.out HX.out)).2⟩
         refine hK.out _ _ hS1 (fun hHeld => ?_)
         clear hK K
         try simp only [Act.put,qk1,qk2,qk3,qk4,qk5,qk6]
         refine takes [9,10,11,12,13,14,15,16,17,18,19,20,21,22,23,24] ?_
         refine wpAnyH_done (by kernel_rfl) ?_ _
         refine NoPanic.normal ?_
         go_wp2_with fail
         go_roundw
         case rel => exact ⟨k + 1, _, by go_num, rfl, by omega, HX.out⟩
         case measure => simp [intOf]; omega
       · rw [hbe] at hcv
         have HCv := hD hcv
         clear hcv hbe
         have hne := run_ne_flt y x
         obtain ⟨nb, hnb⟩ : ∃ nb, nb = !(decide (y.1 = x.1) && decide (y.2 = x.2)) := ⟨_, rfl⟩
         rw [← hnb] at hne
         clear hnb
         cases nb
         · go_wp2_with fail
           refine wp_region_noPanic ?_
           have HX : Hid (Below wr.heap.size wr w2.drew) := hD (HB2.out.drew)
           generalize hv : w2.drew = v0 at HX
           have hS0 : Below wr.heap.size wr v0 ∧ v0.cell? ⟨b, off + k * 2, none⟩ = some (.int .u16 (y.1 : Int)) ∧ v0.cell? ⟨b, off + k * 2 + 1, none⟩ = some (.int .u16 (y.2 : Int)) ∧ v0.cell? ⟨b, off + j * 2, none⟩ = some (.int .u16 (x.1 : Int)) ∧ v0.cell? ⟨b, off + j * 2 + 1, none⟩ = some (.int .u16 (x.2 : Int)) := ⟨HX.out, (HCK.out _ (bon HB.out HX.out)).1, (HCK.out _ (bon HB.out HX.out)).2, (HCC.out _ (bon HB.out HX.out)).1, (HCC.out _ (bon HB.out HX.out)).2⟩
           refine wp_region_held_drew (S := fun W => Below wr.heap.size wr W ∧ W.cell? ⟨b, off + k * 2, none⟩ = some (.int .u16 (y.1 : Int)) ∧ W.cell? ⟨b, off + k * 2 + 1, none⟩ = some (.int .u16 (y.2 : Int)) ∧ W.cell? ⟨b, off + j * 2, none⟩ = some (.int .u16 (x.1 : Int)) ∧ W.cell? ⟨b, off + j * 2 + 1, none⟩ = some (.int .u16 (x.2 : Int))) (by kernel_rfl) (by rw [hv]; exact hS0) (fun hHeld => ?_)
           rw [hv] at hHeld ⊢
           clear hv
           refine takes [0,1,2,3,4,5,6,7] ?_
           refine tkr 8 rfl (fun K hK => ?_)
           go_simp
           go_at_call 124
           refine (HCv.out _).mono ?_
           rintro e v1 ⟨rfl, hs⟩
           have HX := hD (bon HX.out hs)
           clear hs
           go_wp2_with fail
           have hS1 : Below wr.heap.size wr v1 ∧ v1.cell? ⟨b, off + k * 2, none⟩ = some (.int .u16 (y.1 : Int)) ∧ v1.cell? ⟨b, off + k * 2 + 1, none⟩ = some (.int .u16 (y.2 : Int)) ∧ v1.cell? ⟨b, off + j * 2, none⟩ = some (.int .u16 (x.1 : Int)) ∧ v1.cell? ⟨b, off + j * 2 + 1, none⟩ = some (.int .u16 (x.2 : Int)) := ⟨HX.out, (HCK.out _ (bon HB.out HX.out)).1, (HCK.out _ (bon HB.out HX.out)).2, (HCC.out _ (bon HB.out HX.out)).1, (HCC.out _ (bon HB.out HX.out)).2⟩
           refine hK.out _ _ hS1 (fun hHeld => ?_)
           clear hK K
           try simp only [Act.put,qk1,qk2,qk3,qk4,qk5,qk6]
           refine takes [9,10,11,12,13,14,15,16,17,18,19,20,21,22,23,24] ?_
           refine wpAnyH_done (by kernel_rfl) ?_ _
           refine NoPanic.normal ?_
           go_wp2_with fail
           all_goals
            go_roundw
            case rel => exact ⟨k + 1, _, by go_num, rfl, by omega, HX.out⟩
            case measure => simp [intOf]; omega
         · go_wp2_with fail
           refine wp_region_noPanic ?_
           have HX : Hid (Below wr.heap.size wr w2.drew) := hD (HB2.out.drew)
           generalize hv : w2.drew = v0 at HX
           have hS0 : Below wr.heap.size wr v0 ∧ v0.cell? ⟨b, off + k * 2, none⟩ = some (.int .u16 (y.1 : Int)) ∧ v0.cell? ⟨b, off + k * 2 + 1, none⟩ = some (.int .u16 (y.2 : Int)) ∧ v0.cell? ⟨b, off + j * 2, none⟩ = some (.int .u16 (x.1 : Int)) ∧ v0.cell? ⟨b, off + j * 2 + 1, none⟩ = some (.int .u16 (x.2 : Int)) := ⟨HX.out, (HCK.out _ (bon HB.out HX.out)).1, (HCK.out _ (bon HB.out HX.out)).2, (HCC.out _ (bon HB.out HX.out)).1, (HCC.out _ (bon HB.out HX.out)).2⟩
           refine wp_region_held_drew (S := fun W => Below wr.heap.size wr W ∧ W.cell? ⟨b, off + k * 2, none⟩ = some (.int .u16 (y.1 : Int)) ∧ W.cell? ⟨b, off + k * 2 + 1, none⟩ = some (.int .u16 (y.2 : Int)) ∧ W.cell? ⟨b, off + j * 2, none⟩ = some (.int .u16 (x.1 : Int)) ∧ W.cell? ⟨b, off + j * 2 + 1, none⟩ = some (.int .u16 (x.2 : Int))) (by kernel_rfl) (by rw [hv]; exact hS0) (fun hHeld => ?_)
           rw [hv] at hHeld ⊢
           clear hv
           refine takes [0,1,2,3,4,5,6,7] ?_
           refine tkr 8 rfl (fun K hK => ?_)
           go_simp
           go_at_call 124
           refine (HCv.out _).mono ?_
           rintro e v1 ⟨rfl, hs⟩
           have HX := hD (bon HX.out hs)
           clear hs
           go_wp2_with fail
           have hS1 : Below wr.heap.size wr v1 ∧ v1.cell? ⟨b, off + k * 2, none⟩ = some (.int .u16 (y.1 : Int)) ∧ v1.cell? ⟨b, off + k * 2 + 1, none⟩ = some (.int .u16 (y.2 : Int)) ∧ v1.cell? ⟨b, off + j * 2, none⟩ = some (.int .u16 (x.1 : Int)) ∧ v1.cell? ⟨b, off + j * 2 + 1, none⟩ = some (.int .u16 (x.2 : Int)) := ⟨HX.out, (HCK.out _ (bon HB.out HX.out)).1, (HCK.out _ (bon HB.out HX.out)).2, (HCC.out _ (bon HB.out HX.out)).1, (HCC.out _ (bon HB.out HX.out)).2⟩
           refine hK.out _ _ hS1 (fun hHeld => ?_)
           clear hK K
           try simp only [Act.put,qk1,qk2,qk3,qk4,qk5,qk6]
           refine takes [9,10,11,12,13,14,15,16,17,18,19,20,21,22,23,24] ?_
           refine wpAnyH_done (by kernel_rfl) ?_ _
           refine NoPanic.normal ?_
           go_wp2_with fail
           go_roundw
           case rel => exact ⟨k + 1, _, by go_num, rfl, by omega, HX.out⟩
           case measure => simp [intOf]; omega
     · obtain rfl : k = l.length := by omega
       have HO2 := hD (ownsRow_below HO.out HB2.out)
       cases kb
       · go_wp2_with fail
         go_roundw
         case rel => exact ⟨j + 1, _, s, base, by go_num, rfl, by omega, by omega, HFs.out, HO2.out, bon HB.out HB2.out⟩
         case measure => simp [intOf]; omega
       · go_wp2_with fail
         go_loopw [7] (fun i w3 => ∃ a : Nat, i = .int .i64 a ∧ a ≤ s.length ∧ Below wr.heap.size wr w3) (fun i _ => s.length - (intOf i).toNat)
         case atStart => exact ⟨0, rfl, by omega, HB2.out⟩
         case round =>
          rename World => w3
          obtain ⟨a, rfl, ha, hb3⟩ := hrel
          have HB3 := hD hb3
          have hz3 := hb3.size
          clear hb3
          have a0' : (0 : Int) ≤ (a : Int) := by omega
          by_cases hal : a < s.length
          · have a1 : (a : Int) < (s.length : Int) := by omega
            obtain ⟨g, rfl⟩ := own_some HO.out (by omega)
            have HRs := hD (Rd.own HO.out)
            obtain ⟨g9, off9, e9, hg9, hcz⟩ := flt_at HRs.out hal
            injection e9 with e9
            injection e9 with e9 e9'
            subst e9 e9'
            have hzb := flts_at HFs.out hal
            obtain ⟨z, hze⟩ : ∃ z, z = s[a] := ⟨_, rfl⟩
            rw [← hze] at hcz hzb
            have hcz2 : ∀ w', Below wr.heap.size wr w' → w'.cell? ⟨g, a * 2, none⟩ = some (.int .u16 (z.1 : Int)) ∧ w'.cell? ⟨g, a * 2 + 1, none⟩ = some (.int .u16 (z.2 : Int)) := fun w' hw => by simpa using hcz w' hw
            have HCZ := hD hcz2
            clear hcz hcz2 hze
            have HCm : Hid (∀ W, Calls Tryz.prog 125 #[.agg #[.int .u16 (z.1 : Int), .int .u16 (z.2 : Int)], .agg #[.int .u16 (x.1 : Int), .int .u16 (x.2 : Int)]] W (RetInt (cmpF z x) W)) := hD (fun W => compareF_any z x W hzb.1 hzb.2 hxb.1 hxb.2)
            obtain ⟨cm, hcm⟩ : ∃ cm, cm = cmpF z x := ⟨_, rfl⟩
            rw [← hcm] at HCm
            clear hcm
            by_cases hlt0 : cm < 0
            · have q0 : decide (cm < 0) = true := by simpa using hlt0
              clear hlt0
              go_wp2_with fail
              refine wp_region_noPanic ?_
              have HX : Hid (Below wr.heap.size wr w3.drew) := hD (HB3.out.drew)
              generalize hv : w3.drew = v0 at HX
              have hS0 : Below wr.heap.size wr v0 ∧ v0.cell? ⟨g, a * 2, none⟩ = some (.int .u16 (z.1 : Int)) ∧ v0.cell? ⟨g, a * 2 + 1, none⟩ = some (.int .u16 (z.2 : Int)) ∧ v0.cell? ⟨b, off + j * 2, none⟩ = some (.int .u16 (x.1 : Int)) ∧ v0.cell? ⟨b, off + j * 2 + 1, none⟩ = some (.int .u16 (x.2 : Int)) := ⟨HX.out, (HCZ.out _ HX.out).1, (HCZ.out _ HX.out).2, (HCC.out _ (bon HB.out HX.out)).1, (HCC.out _ (bon HB.out HX.out)).2⟩
              refine wp_region_held_drew (S := fun W => Below wr.heap.size wr W ∧ W.cell? ⟨g, a * 2, none⟩ = some (.int .u16 (z.1 : Int)) ∧ W.cell? ⟨g, a * 2 + 1, none⟩ = some (.int .u16 (z.2 : Int)) ∧ W.cell? ⟨b, off + j * 2, none⟩ = some (.int .u16 (x.1 : Int)) ∧ W.cell? ⟨b, off + j * 2 + 1, none⟩ = some (.int .u16 (x.2 : Int))) (by kernel_rfl) (by rw [hv]; exact hS0) (fun hHeld => ?_)
              rw [hv] at hHeld ⊢
              clear hv
              refine takes [0,1,2,3,4,5,6,7,8,9,10,11,12] ?_
              refine tkr 13 rfl (fun K hK => ?_)
              go_simp
              go_at_call 125
              refine (HCm.out _).mono ?_
              rintro e v1 ⟨rfl, hs⟩
              have HX := hD (bon HX.out hs)
              clear hs
              go_wp2_with fail
              have hS1 : Below wr.heap.size wr v1 ∧ v1.cell? ⟨g, a * 2, none⟩ = some (.int .u16 (z.1 : Int)) ∧ v1.cell? ⟨g, a * 2 + 1, none⟩ = some (.int .u16 (z.2 : Int)) ∧ v1.cell? ⟨b, off + j * 2, none⟩ = some (.int .u16 (x.1 : Int)) ∧ v1.cell? ⟨b, off + j * 2 + 1, none⟩ = some (.int .u16 (x.2 : Int)) := ⟨HX.out, (HCZ.out _ HX.out).1, (HCZ.out _ HX.out).2, (HCC.out _ (bon HB.out HX.out)).1, (HCC.out _ (bon HB.out HX.out)).2⟩
              refine hK.out _ _ hS1 (fun hHeld => ?_)
              clear hK K
              try simp only [Act.put,qk1,qk2,qk3,qk4,qk5,qk6]
              refine takes [14,15] ?_
              refine wpAnyH_done (by kernel_rfl) ?_ _
              refine NoPanic.normal ?_
              go_wp2_with fail
              go_roundw
              case rel => exact ⟨a + 1, by go_num, by omega, HX.out⟩
              case measure => simp [intOf]; omega
            · have q0 : decide (cm < 0) = false := by simpa using hlt0
              clear hlt0
              go_wp2_with fail
              refine wp_region_noPanic ?_
              have HX : Hid (Below wr.heap.size wr w3.drew) := hD (HB3.out.drew)
              generalize hv : w3.drew = v0 at HX
              have hS0 : Below wr.heap.size wr v0 ∧ v0.cell? ⟨g, a * 2, none⟩ = some (.int .u16 (z.1 : Int)) ∧ v0.cell? ⟨g, a * 2 + 1, none⟩ = some (.int .u16 (z.2 : Int)) ∧ v0.cell? ⟨b, off + j * 2, none⟩ = some (.int .u16 (x.1 : Int)) ∧ v0.cell? ⟨b, off + j * 2 + 1, none⟩ = some (.int .u16 (x.2 : Int)) := ⟨HX.out, (HCZ.out _ HX.out).1, (HCZ.out _ HX.out).2, (HCC.out _ (bon HB.out HX.out)).1, (HCC.out _ (bon HB.out HX.out)).2⟩
              refine wp_region_held_drew (S := fun W => Below wr.heap.size wr W ∧ W.cell? ⟨g, a * 2, none⟩ = some (.int .u16 (z.1 : Int)) ∧ W.cell? ⟨g, a * 2 + 1, none⟩ = some (.int .u16 (z.2 : Int)) ∧ W.cell? ⟨b, off + j * 2, none⟩ = some (.int .u16 (x.1 : Int)) ∧ W.cell? ⟨b, off + j * 2 + 1, none⟩ = some (.int .u16 (x.2 : Int))) (by kernel_rfl) (by rw [hv]; exact hS0) (fun hHeld => ?_)
              rw [hv] at hHeld ⊢
              clear hv
              refine takes [0,1,2,3,4,5,6,7,8,9,10,11,12] ?_
              refine tkr 13 rfl (fun K hK => ?_)
              go_simp
              go_at_call 125
              refine (HCm.out _).mono ?_
              rintro e v1 ⟨rfl, hs⟩
              have HX := hD (bon HX.out hs)
              clear hs
              go_wp2_with fail
              have hS1 : Below wr.heap.size wr v1 ∧ v1.cell? ⟨g, a * 2, none⟩ = some (.int .u16 (z.1 : Int)) ∧ v1.cell? ⟨g, a * 2 + 1, none⟩ = some (.int .u16 (z.2 : Int)) ∧ v1.cell? ⟨b, off + j * 2, none⟩ = some (.int .u16 (x.1 : Int)) ∧ v1.cell? ⟨b, off + j * 2 + 1, none⟩ = some (.int .u16 (x.2 : Int)) := ⟨HX.out, (HCZ.out _ HX.out).1, (HCZ.out _ HX.out).2, (HCC.out _ (bon HB.out HX.out)).1, (HCC.out _ (bon HB.out HX.out)).2⟩
              refine hK.out _ _ hS1 (fun hHeld => ?_)
              clear hK K
              try simp only [Act.put,qk1,qk2,qk3,qk4,qk5,qk6]
              refine takes [14,15] ?_
              refine wpAnyH_done (by kernel_rfl) ?_ _
              refine NoPanic.normal ?_
              clear q0
              have hcap := own_capA HO.out
              have hrp : ∀ W, (Instr.slice 72 (.slice (some (⟨g, 0, none⟩ : Addr)) s.length c) none (some (.int .i64 (a : Int))) none).run Tryz.prog W = .ok (.slice (some (⟨g, 0, none⟩ : Addr)) a c) W := flt_run_pre (some (⟨g, 0, none⟩ : Addr)) s.length c a (by omega) hcap.2
              have hrq : ∀ W, (Instr.slice 72 (.slice (some (⟨g, 0, none⟩ : Addr)) s.length c) (some (.int .i64 (a : Int))) none none).run Tryz.prog W = .ok (.slice (if c = a then (some (⟨g, 0, none⟩ : Addr)) else (some (⟨g, 0, none⟩ : Addr)).map (·.add (a * 2))) (s.length - a) (c - a)) W := flt_run_post (some (⟨g, 0, none⟩ : Addr)) s.length c a (by omega)
              have HRp : Hid (∀ W, Below wr.heap.size wr W → Rd W 2 (some (⟨g, 0, none⟩ : Addr)) a ((s.take a).flatMap fltC)) := hD (fun W hW => flt_pre (Rd.own (ownsRow_below HO.out hW)) a (by omega))
              have HRq : Hid (∀ W, Below wr.heap.size wr W → Rd W 2 (if c = a then (some (⟨g, 0, none⟩ : Addr)) else (some (⟨g, 0, none⟩ : Addr)).map (·.add (a * 2))) (s.length - a) ((s.drop a).flatMap fltC)) := hD (fun W hW => flt_post (Rd.own (ownsRow_below HO.out hW)) a (by omega) hcap.1)
              obtain ⟨A7, hA7⟩ : ∃ A7, A7 = (if c = a then (some (⟨g, 0, none⟩ : Addr)) else (some (⟨g, 0, none⟩ : Addr)).map (·.add (a * 2))) := ⟨_, rfl⟩
              rw [← hA7] at hrq HRq
              have HRP := hD hrp
              have HRQ := hD hrq
              have HON : Hid (v1.ownsRow v1.heap.size 159 2 (.slice none 0 0) 0 []) := hD (World.ownsRow_nil _ _ _ _)
              have hs9 : s.length ≤ 1000 := by omega
              clear hcap hA7 hrq hrp
              have hrp := HRP.out
              go_wp2_with (at_builtin; refine wpList_apr elemFlt rfl _ _ rfl v1.heap.size rfl HON.out rfl (HRp.out _ HX.out) flt_one (by omega) (by omega) (by omega) ?_)
              intro A4 c4 w4 hown4 hb4
              have HO4 := hD hown4
              have HB4 := hD hb4
              have HBx4 := hD (bon HX.out hb4)
              have cx4 := HCC.out _ (bon HB.out HBx4.out)
              have cx41 := cx4.1
              have cx42 := cx4.2
              have hz4 := HBx4.out.size
              have hgb4 : b < w4.heap.size := by omega
              clear hown4 hb4 cx4 hrp
              go_wp2_with (at_builtin; refine wpList_apr elemFlt rfl _ _ rfl v1.heap.size rfl (HO4.out.alloc _) rfl (rd_new _ 2 1 (fltC x) _ (by rfl)) (flt_one1 x) (by omega) (by omega) (Nat.le_trans HB4.out.size (by simp)) ?_)
              intro A5 c5 w5 hown5 hb5
              have HO5 := hD hown5
              have HB5 := hD ((HB4.out.trans ((below_new _ _).mono HB4.out.size)).trans hb5)
              have HBx5 := hD (bon HX.out HB5.out)
              clear hown5 hb5 cx41 cx42
              have hrq := HRQ.out
              go_wp2_with (at_builtin; refine wpList_apr elemFlt rfl _ _ rfl v1.heap.size rfl HO5.out rfl (HRq.out _ HBx5.out) flt_one (by omega) (by omega) (HB5.out.size) ?_)
              intro A6 c6 w6 hown6 hb6
              have HBx6 := hD (bon HX.out (HB5.out.trans hb6))
              have HE : Hid (a + 1 + (s.length - a) = (s.take a ++ x :: s.drop a).length) := hD (by simp; omega)
              have HO6 : Hid (w6.ownsRow v1.heap.size 159 2 (.slice A6 (a + 1 + (s.length - a)) c6) (s.take a ++ x :: s.drop a).length ((s.take a ++ x :: s.drop a).flatMap fltC)) := hD (by
               rw [← HE.out, List.flatMap_append, List.flatMap_cons]
               exact hown6)
              have HF6 : Hid (flts (s.take a ++ x :: s.drop a)) := hD (fun u hu => by
               rcases List.mem_append.1 hu with h1 | h1
               · exact HFs.out u (List.mem_of_mem_take h1)
               · rcases List.mem_cons.1 h1 with h2 | h2
                 · rw [h2]; exact hxb
                 · exact HFs.out u (List.mem_of_mem_drop h2))
              have HL6 : Hid ((s.take a ++ x :: s.drop a).length ≤ j + 1) := hD (by rw [← HE.out]; omega)
              clear hown6 hb6
              go_wp2_with fail
              go_roundw
              case rel => exact ⟨j + 1, _, s.take a ++ x :: s.drop a, v1.heap.size, by go_num, rfl, by omega, HL6.out, HF6.out, HO6.out, bon HB.out HBx6.out⟩
              case measure => simp [intOf]; omega
          · have hd : decide (a < s.length) = false := by simpa using hal
            clear hal
            go_wp2_with fail
            go_quiet (fail)
            clear hd
            rename_i nq
            have HX := hD (bdN HB3.out nq)
            have hcap := own_capA HO.out
            have hrp : ∀ W, (Instr.slice 72 (.slice A s.length c) none (some (.int .i64 (a : Int))) none).run Tryz.prog W = .ok (.slice A a c) W := flt_run_pre A s.length c a (by omega) hcap.2
            have hrq : ∀ W, (Instr.slice 72 (.slice A s.length c) (some (.int .i64 (a : Int))) none none).run Tryz.prog W = .ok (.slice (if c = a then A else A.map (·.add (a * 2))) (s.length - a) (c - a)) W := flt_run_post A s.length c a (by omega)
            have HRp : Hid (∀ W, Below wr.heap.size wr W → Rd W 2 A a ((s.take a).flatMap fltC)) := hD (fun W hW => flt_pre (Rd.own (ownsRow_below HO.out hW)) a (by omega))
            have HRq : Hid (∀ W, Below wr.heap.size wr W → Rd W 2 (if c = a then A else A.map (·.add (a * 2))) (s.length - a) ((s.drop a).flatMap fltC)) := hD (fun W hW => flt_post (Rd.own (ownsRow_below HO.out hW)) a (by omega) hcap.1)
            obtain ⟨A7, hA7⟩ : ∃ A7, A7 = (if c = a then A else A.map (·.add (a * 2))) := ⟨_, rfl⟩
            rw [← hA7] at hrq HRq
            have HRP := hD hrp
            have HRQ := hD hrq
            have HON : Hid ((w3.drewN nq).ownsRow (w3.drewN nq).heap.size 159 2 (.slice none 0 0) 0 []) := hD (World.ownsRow_nil _ _ _ _)
            have hs9 : s.length ≤ 1000 := by omega
            clear hcap hA7 hrq hrp
            have hrp := HRP.out
            go_wp2_with (at_builtin; refine wpList_apr elemFlt rfl _ _ rfl (w3.drewN nq).heap.size rfl HON.out rfl (HRp.out _ HX.out) flt_one (by omega) (by omega) (by omega) ?_)
            intro A4 c4 w4 hown4 hb4
            have HO4 := hD hown4
            have HB4 := hD hb4
            have HBx4 := hD (bon HX.out hb4)
            have cx4 := HCC.out _ (bon HB.out HBx4.out)
            have cx41 := cx4.1
            have cx42 := cx4.2
            have hz4 := HBx4.out.size
            have hgb4 : b < w4.heap.size := by omega
            clear hown4 hb4 cx4 hrp
            go_wp2_with (at_builtin; refine wpList_apr elemFlt rfl _ _ rfl (w3.drewN nq).heap.size rfl (HO4.out.alloc _) rfl (rd_new _ 2 1 (fltC x) _ (by rfl)) (flt_one1 x) (by omega) (by omega) (Nat.le_trans HB4.out.size (by simp)) ?_)
            intro A5 c5 w5 hown5 hb5
            have HO5 := hD hown5
            have HB5 := hD ((HB4.out.trans ((below_new _ _).mono HB4.out.size)).trans hb5)
            have HBx5 := hD (bon HX.out HB5.out)
            clear hown5 hb5 cx41 cx42
            have hrq := HRQ.out
            go_wp2_with (at_builtin; refine wpList_apr elemFlt rfl _ _ rfl (w3.drewN nq).heap.size rfl HO5.out rfl (HRq.out _ HBx5.out) flt_one (by omega) (by omega) (HB5.out.size) ?_)
            intro A6 c6 w6 hown6 hb6
            have HBx6 := hD (bon HX.out (HB5.out.trans hb6))
            have HE : Hid (a + 1 + (s.length - a) = (s.take a ++ x :: s.drop a).length) := hD (by simp; omega)
            have HO6 : Hid (w6.ownsRow (w3.drewN nq).heap.size 159 2 (.slice A6 (a + 1 + (s.length - a)) c6) (s.take a ++ x :: s.drop a).length ((s.take a ++ x :: s.drop a).flatMap fltC)) := hD (by
             rw [← HE.out, List.flatMap_append, List.flatMap_cons]
             exact hown6)
            have HF6 : Hid (flts (s.take a ++ x :: s.drop a)) := hD (fun u hu => by
             rcases List.mem_append.1 hu with h1 | h1
             · exact HFs.out u (List.mem_of_mem_take h1)
             · rcases List.mem_cons.1 h1 with h2 | h2
               · rw [h2]; exact hxb
               · exact HFs.out u (List.mem_of_mem_drop h2))
            have HL6 : Hid ((s.take a ++ x :: s.drop a).length ≤ j + 1) := hD (by rw [← HE.out]; omega)
            clear hown6 hb6
            go_wp2_with fail
            go_roundw
            case rel => exact ⟨j + 1, _, s.take a ++ x :: s.drop a, (w3.drewN nq).heap.size, by go_num, rfl, by omega, HL6.out, HF6.out, HO6.out, bon HB.out HBx6.out⟩
            case measure => simp [intOf]; omega
  · obtain rfl : j = l.length := by omega
    go_wp2_with fail
    go_ret
    exact ⟨⟨A, s.length, c, rfl⟩, HB.out⟩
open Go.RowKit
theorem andNot_u16 (a b : Int) : ∃ v : Nat, v < 65536 ∧ bits .andNot .u16 a b = (v : Int) := u16_wrap _
set_option maxRecDepth 100000 in
set_option maxHeartbeats 2000000 in
theorem made3_any (A0 : Option Addr) (c0 : Nat) (l : List (Nat × Nat)) (w : World) (hr : Rd w 2 A0 l.length (l.flatMap fltC)) : Calls Tryz.prog 55 #[.int .i64 3, .slice A0 l.length c0] w (Sm w) := by
 have HR := hD hr
 clear hr
 go_enter Tryz.func55, Tryz.ntmps55
 go_wp2_with fail
 go_loopw [6, 7] (fun o i wr => ∃ (j : Nat) (q : Value) (s : List (Nat × Nat)), i = .int .i64 j ∧ q = o ∧ j ≤ l.length ∧ j ≤ 6 ∧ s.length = j + 1 ∧ flts s ∧ wr.ownsRow w.heap.size 159 2 q s.length (s.flatMap fltC) ∧ Below w.heap.size w wr) (fun _ i _ => 6 - (intOf i).toNat)
 case atStart => exact ⟨0, _, [(0, 0)], rfl, rfl, by omega, by omega, rfl, by simp [flts], World.ownsRow_lit w #[.int .u16 0, .int .u16 0] 1 (Nat.le_refl _) (by decide) (by rfl), below_new w _⟩
 case round =>
  obtain ⟨j, o, s, rfl, rfl, hj, hj6, hsl, hfs, how, hbl⟩ := hrel
  have HO := hD how
  have HB := hD hbl
  have HFs := hD hfs
  have hz := hbl.size
  have HL := hD hsl
  have hs7 : s.length ≤ 7 := by omega
  clear hbl hfs hsl
  obtain ⟨A, c, rfl⟩ := ownsRow_form how
  clear how
  have i0' : (0 : Int) ≤ (j : Int) := by omega
  by_cases hlt : j < l.length ∧ j < 6
  · obtain ⟨hlt1, hlt2⟩ := hlt
    have i1 : (j : Int) < (l.length : Int) := by omega
    have i2 : (j : Int) < 6 := by omega
    obtain ⟨b, off, rfl, hg, hcc⟩ := flt_at HR.out hlt1
    obtain ⟨x, hxe⟩ : ∃ x, x = l[j] := ⟨_, rfl⟩
    rw [← hxe] at hcc
    have HCC := hD hcc
    obtain ⟨u, hu, he1⟩ := and_u16 (x.1 : Int) 7
    obtain ⟨v, hv, he2⟩ := and_u16 (x.2 : Int) 7
    obtain ⟨t, ht, he3⟩ := andNot_u16 (v : Int) (x.1 : Int)
    have HU := hD hu
    have HT := hD ht
    clear hcc hxe hu hv ht
    go_wp2_with fail
    have hC0 := HCC.out _ (HB.out.drew)
    have hrg := HB.out
    go_region_held3 (fun W => Below w.heap.size w W ∧ W.cell? ⟨b, off + j * 2, none⟩ = some (.int .u16 (x.1 : Int)) ∧ W.cell? ⟨b, off + j * 2 + 1, none⟩ = some (.int .u16 (x.2 : Int)))
     (first | exact ⟨HB.out.drew, HCC.out _ HB.out.drew⟩ | exact ⟨(‹Below _ _ _ ∧ _›.1).alloc (Below.size ‹Below _ _ _ ∧ _›.1) _, HCC.out _ ((‹Below _ _ _ ∧ _›.1).alloc (Below.size ‹Below _ _ _ ∧ _›.1) _)⟩ | exact ⟨hbk, HCC.out _ hbk⟩ | assumption)
     ((refine step_apr elemFlt rfl _ _ (by rfl) w.heap.size (by rfl) ((HO.out.alloc _).drew) (by rfl) ((rd_new wr 2 1 (fltC (u, t)) _ (by rfl)).below (Below.refl _ _).drew) (flt_one1 (u, t)) (by omega) (by omega) (by simp; omega) ?_; intro A4 c4 w4 hown hb4; have hbk : Below w.heap.size w w4 := ((bon HB.out (below_new wr _)).drew).trans hb4))
    have HO4 : Hid (w4.ownsRow w.heap.size 159 2 (.slice A4 (s.length + 1) c4) (s ++ [(u, t)]).length ((s ++ [(u, t)]).flatMap fltC)) := hD (by
     rw [List.length_append, List.flatMap_append]; simpa using hown)
    have HB4 := hD hbk
    have HF4 : Hid (flts (s ++ [(u, t)])) := hD (fun y hy => by
     rcases List.mem_append.1 hy with h1 | h1
     · exact HFs.out y h1
     · rw [List.mem_singleton] at h1; rw [h1]; exact ⟨HU.out, HT.out⟩)
    clear hown hb4 hbk hC0 hrg he1 he2 he3
    go_wp2_with fail
    go_roundw
    case rel => exact ⟨j + 1, _, s ++ [(u, t)], by go_num, rfl, by omega, by omega, by rw [List.length_append, HL.out]; rfl, HF4.out, HO4.out, HB4.out⟩
    case measure => simp [intOf]; omega
  · have hg : decide (j < l.length) = false ∨ (decide (j < l.length) = true ∧ decide ((j : Int) < 6) = false) := by
      by_cases h1 : j < l.length
      · exact .inr ⟨by simpa using h1, by simp; omega⟩
      · exact .inl (by simp; omega)
    have HNo := hD (normal_any A c s wr (Rd.own HO.out) HFs.out (by omega))
    rcases hg with hg1 | ⟨hg1, hg2⟩
    · go_wp2_with fail
      refine HNo.out.mono ?_
      rintro e w5 ⟨⟨A5, n5, c5, rfl⟩, hb5⟩
      have HB5 := hD hb5
      clear hb5
      go_wp2_with fail
      go_ret
      exact ⟨⟨A5, n5, c5, rfl⟩, bon HB.out HB5.out⟩
    · go_wp2_with fail
      refine HNo.out.mono ?_
      rintro e w5 ⟨⟨A5, n5, c5, rfl⟩, hb5⟩
      have HB5 := hD hb5
      clear hb5
      go_wp2_with fail
      go_ret
      exact ⟨⟨A5, n5, c5, rfl⟩, bon HB.out HB5.out⟩
set_option maxRecDepth 100000 in
set_option maxHeartbeats 2000000 in
theorem made4_any (A0 : Option Addr) (c0 : Nat) (l : List (Nat × Nat)) (w : World) (hr : Rd w 2 A0 l.length (l.flatMap fltC)) : Calls Tryz.prog 55 #[.int .i64 4, .slice A0 l.length c0] w (Sm w) := by
 have HR := hD hr
 clear hr
 go_enter Tryz.func55, Tryz.ntmps55
 go_wp2_with fail
 go_loopw [6, 7] (fun o i wr => ∃ (j : Nat) (q : Value) (s : List (Nat × Nat)), i = .int .i64 j ∧ q = o ∧ j ≤ l.length ∧ j ≤ 6 ∧ s.length = j + 1 ∧ flts s ∧ wr.ownsRow w.heap.size 159 2 q s.length (s.flatMap fltC) ∧ Below w.heap.size w wr) (fun _ i _ => 6 - (intOf i).toNat)
 case atStart => exact ⟨0, _, [(0, 0)], rfl, rfl, by omega, by omega, rfl, by simp [flts], World.ownsRow_lit w #[.int .u16 0, .int .u16 0] 1 (Nat.le_refl _) (by decide) (by rfl), below_new w _⟩
 case round =>
  obtain ⟨j, o, s, rfl, rfl, hj, hj6, hsl, hfs, how, hbl⟩ := hrel
  have HO := hD how
  have HB := hD hbl
  have HFs := hD hfs
  have hz := hbl.size
  have HL := hD hsl
  have hs7 : s.length ≤ 7 := by omega
  clear hbl hfs hsl
  obtain ⟨A, c, rfl⟩ := ownsRow_form how
  clear how
  have i0' : (0 : Int) ≤ (j : Int) := by omega
  by_cases hlt : j < l.length ∧ j < 6
  · obtain ⟨hlt1, hlt2⟩ := hlt
    have i1 : (j : Int) < (l.length : Int) := by omega
    have i2 : (j : Int) < 6 := by omega
    obtain ⟨b, off, rfl, hg, hcc⟩ := flt_at HR.out hlt1
    obtain ⟨x, hxe⟩ : ∃ x, x = l[j] := ⟨_, rfl⟩
    rw [← hxe] at hcc
    have HCC := hD hcc
    obtain ⟨u, hu, he1⟩ := and_u16 (x.1 : Int) 15
    obtain ⟨v, hv, he2⟩ := and_u16 (x.2 : Int) 15
    obtain ⟨t, ht, he3⟩ := andNot_u16 (v : Int) (x.1 : Int)
    have HU := hD hu
    have HT := hD ht
    clear hcc hxe hu hv ht
    go_wp2_with fail
    have hC0 := HCC.out _ (HB.out.drew)
    have hrg := HB.out
    go_region_held3 (fun W => Below w.heap.size w W ∧ W.cell? ⟨b, off + j * 2, none⟩ = some (.int .u16 (x.1 : Int)) ∧ W.cell? ⟨b, off + j * 2 + 1, none⟩ = some (.int .u16 (x.2 : Int)))
     (first | exact ⟨HB.out.drew, HCC.out _ HB.out.drew⟩ | exact ⟨(‹Below _ _ _ ∧ _›.1).alloc (Below.size ‹Below _ _ _ ∧ _›.1) _, HCC.out _ ((‹Below _ _ _ ∧ _›.1).alloc (Below.size ‹Below _ _ _ ∧ _›.1) _)⟩ | exact ⟨hbk, HCC.out _ hbk⟩ | assumption)
     ((refine step_apr elemFlt rfl _ _ (by rfl) w.heap.size (by rfl) ((HO.out.alloc _).drew) (by rfl) ((rd_new wr 2 1 (fltC (u, t)) _ (by rfl)).below (Below.refl _ _).drew) (flt_one1 (u, t)) (by omega) (by omega) (by simp; omega) ?_; intro A4 c4 w4 hown hb4; have hbk : Below w.heap.size w w4 := ((bon HB.out (below_new wr _)).drew).trans hb4))
    have HO4 : Hid (w4.ownsRow w.heap.size 159 2 (.slice A4 (s.length + 1) c4) (s ++ [(u, t)]).length ((s ++ [(u, t)]).flatMap fltC)) := hD (by
     rw [List.length_append, List.flatMap_append]; simpa using hown)
    have HB4 := hD hbk
    have HF4 : Hid (flts (s ++ [(u, t)])) := hD (fun y hy => by
     rcases List.mem_append.1 hy with h1 | h1
     · exact HFs.out y h1
     · rw [List.mem_singleton] at h1; rw [h1]; exact ⟨HU.out, HT.out⟩)
    clear hown hb4 hbk hC0 hrg he1 he2 he3
    go_wp2_with fail
    go_roundw
    case rel => exact ⟨j + 1, _, s ++ [(u, t)], by go_num, rfl, by omega, by omega, by rw [List.length_append, HL.out]; rfl, HF4.out, HO4.out, HB4.out⟩
    case measure => simp [intOf]; omega
  · have hg : decide (j < l.length) = false ∨ (decide (j < l.length) = true ∧ decide ((j : Int) < 6) = false) := by
      by_cases h1 : j < l.length
      · exact .inr ⟨by simpa using h1, by simp; omega⟩
      · exact .inl (by simp; omega)
    have HNo := hD (normal_any A c s wr (Rd.own HO.out) HFs.out (by omega))
    rcases hg with hg1 | ⟨hg1, hg2⟩
    · go_wp2_with fail
      refine HNo.out.mono ?_
      rintro e w5 ⟨⟨A5, n5, c5, rfl⟩, hb5⟩
      have HB5 := hD hb5
      clear hb5
      go_wp2_with fail
      go_ret
      exact ⟨⟨A5, n5, c5, rfl⟩, bon HB.out HB5.out⟩
    · go_wp2_with fail
      refine HNo.out.mono ?_
      rintro e w5 ⟨⟨A5, n5, c5, rfl⟩, hb5⟩
      have HB5 := hD hb5
      clear hb5
      go_wp2_with fail
      go_ret
      exact ⟨⟨A5, n5, c5, rfl⟩, bon HB.out HB5.out⟩
set_option maxRecDepth 100000 in
set_option maxHeartbeats 2000000 in
theorem made5_any (A0 : Option Addr) (c0 : Nat) (l : List (Nat × Nat)) (w : World) (hr : Rd w 2 A0 l.length (l.flatMap fltC)) : Calls Tryz.prog 55 #[.int .i64 5, .slice A0 l.length c0] w (Sm w) := by
 have HR := hD hr
 clear hr
 go_enter Tryz.func55, Tryz.ntmps55
 go_wp2_with fail
 go_loopw [6, 7] (fun o i wr => ∃ (j : Nat) (q : Value) (s : List (Nat × Nat)), i = .int .i64 j ∧ q = o ∧ j ≤ l.length ∧ j ≤ 6 ∧ s.length = j + 1 ∧ flts s ∧ wr.ownsRow w.heap.size 159 2 q s.length (s.flatMap fltC) ∧ Below w.heap.size w wr) (fun _ i _ => 6 - (intOf i).toNat)
 case atStart => exact ⟨0, _, [(0, 0)], rfl, rfl, by omega, by omega, rfl, by simp [flts], World.ownsRow_lit w #[.int .u16 0, .int .u16 0] 1 (Nat.le_refl _) (by decide) (by rfl), below_new w _⟩
 case round =>
  obtain ⟨j, o, s, rfl, rfl, hj, hj6, hsl, hfs, how, hbl⟩ := hrel
  have HO := hD how
  have HB := hD hbl
  have HFs := hD hfs
  have hz := hbl.size
  have HL := hD hsl
  have hs7 : s.length ≤ 7 := by omega
  clear hbl hfs hsl
  obtain ⟨A, c, rfl⟩ := ownsRow_form how
  clear how
  have i0' : (0 : Int) ≤ (j : Int) := by omega
  by_cases hlt : j < l.length ∧ j < 6
  · obtain ⟨hlt1, hlt2⟩ := hlt
    have i1 : (j : Int) < (l.length : Int) := by omega
    have i2 : (j : Int) < 6 := by omega
    obtain ⟨b, off, rfl, hg, hcc⟩ := flt_at HR.out hlt1
    obtain ⟨x, hxe⟩ : ∃ x, x = l[j] := ⟨_, rfl⟩
    rw [← hxe] at hcc
    have HCC := hD hcc
    obtain ⟨u, hu, he1⟩ := and_u16 (x.1 : Int) 31
    obtain ⟨v, hv, he2⟩ := and_u16 (x.2 : Int) 31
    obtain ⟨t, ht, he3⟩ := andNot_u16 (v : Int) (x.1 : Int)
    have HU := hD hu
    have HT := hD ht
    clear hcc hxe hu hv ht
    go_wp2_with fail
    have hC0 := HCC.out _ (HB.out.drew)
    have hrg := HB.out
    go_region_held3 (fun W => Below w.heap.size w W ∧ W.cell? ⟨b, off + j * 2, none⟩ = some (.int .u16 (x.1 : Int)) ∧ W.cell? ⟨b, off + j * 2 + 1, none⟩ = some (.int .u16 (x.2 : Int)))
     (first | exact ⟨HB.out.drew, HCC.out _ HB.out.drew⟩ | exact ⟨(‹Below _ _ _ ∧ _›.1).alloc (Below.size ‹Below _ _ _ ∧ _›.1) _, HCC.out _ ((‹Below _ _ _ ∧ _›.1).alloc (Below.size ‹Below _ _ _ ∧ _›.1) _)⟩ | exact ⟨hbk, HCC.out _ hbk⟩ | assumption)
     ((refine step_apr elemFlt rfl _ _ (by rfl) w.heap.size (by rfl) ((HO.out.alloc _).drew) (by rfl) ((rd_new wr 2 1 (fltC (u, t)) _ (by rfl)).below (Below.refl _ _).drew) (flt_one1 (u, t)) (by omega) (by omega) (by simp; omega) ?_; intro A4 c4 w4 hown hb4; have hbk : Below w.heap.size w w4 := ((bon HB.out (below_new wr _)).drew).trans hb4))
    have HO4 : Hid (w4.ownsRow w.heap.size 159 2 (.slice A4 (s.length + 1) c4) (s ++ [(u, t)]).length ((s ++ [(u, t)]).flatMap fltC)) := hD (by
     rw [List.length_append, List.flatMap_append]; simpa using hown)
    have HB4 := hD hbk
    have HF4 : Hid (flts (s ++ [(u, t)])) := hD (fun y hy => by
     rcases List.mem_append.1 hy with h1 | h1
     · exact HFs.out y h1
     · rw [List.mem_singleton] at h1; rw [h1]; exact ⟨HU.out, HT.out⟩)
    clear hown hb4 hbk hC0 hrg he1 he2 he3
    go_wp2_with fail
    go_roundw
    case rel => exact ⟨j + 1, _, s ++ [(u, t)], by go_num, rfl, by omega, by omega, by rw [List.length_append, HL.out]; rfl, HF4.out, HO4.out, HB4.out⟩
    case measure => simp [intOf]; omega
  · have hg : decide (j < l.length) = false ∨ (decide (j < l.length) = true ∧ decide ((j : Int) < 6) = false) := by
      by_cases h1 : j < l.length
      · exact .inr ⟨by simpa using h1, by simp; omega⟩
      · exact .inl (by simp; omega)
    have HNo := hD (normal_any A c s wr (Rd.own HO.out) HFs.out (by omega))
    rcases hg with hg1 | ⟨hg1, hg2⟩
    · go_wp2_with fail
      refine HNo.out.mono ?_
      rintro e w5 ⟨⟨A5, n5, c5, rfl⟩, hb5⟩
      have HB5 := hD hb5
      clear hb5
      go_wp2_with fail
      go_ret
      exact ⟨⟨A5, n5, c5, rfl⟩, bon HB.out HB5.out⟩
    · go_wp2_with fail
      refine HNo.out.mono ?_
      rintro e w5 ⟨⟨A5, n5, c5, rfl⟩, hb5⟩
      have HB5 := hD hb5
      clear hb5
      go_wp2_with fail
      go_ret
      exact ⟨⟨A5, n5, c5, rfl⟩, bon HB.out HB5.out⟩
end Go.Proofs.YtikpcebhcnjkhaaGreatDoor
