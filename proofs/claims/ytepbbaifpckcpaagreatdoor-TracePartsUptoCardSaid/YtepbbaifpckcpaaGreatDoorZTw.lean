/- The contracts of Logs. -/
import Derived.Deep.AppendLies
import Derived.Test.YtepbbaifpckcpaaGreatDoorZTb
import Derived.Test.YtepbbaifpckcpaaGreatDoorZTrJ
namespace Go.Proofs.YtepbbaifpckcpaaGreatDoor
open Go.RowKit

theorem mkLogs (w : World) : (Instr.makeSlice 55 (.int .i64 18) (.int .i64 18)).run Tryz.prog w = .ok (.slice (some ⟨w.heap.size, 0, none⟩) 18 18) (w.alloc (.cells (madeCells #[.slice none 0 0] 18) 58)) := by kernel_rfl
theorem place_sv {x : Pt} (h1 : x.kind = 4) (h2 : isSv x.who = true) : ∃ i : Nat, x.who = (i : Int) ∧ i < 12 ∧ logPlace x = some i := by
  have h3 := h2
  simp only [isSv, Bool.and_eq_true, decide_eq_true_eq] at h3
  obtain ⟨i, hi⟩ := Int.eq_ofNat_of_zero_le h3.1
  exact ⟨i, hi, by omega, by unfold logPlace; rw [if_pos ⟨h1, h2⟩, hi]; simp⟩
theorem place_cl {x : Pt} (h1 : x.kind = 3) (h2 : isCl x.who = true) : ∃ p i : Nat, x.who = (p : Int) ∧ i = 12 + p ∧ p < 6 ∧ logPlace x = some i := by
  have h3 := h2
  simp only [isCl, Bool.and_eq_true, decide_eq_true_eq] at h3
  obtain ⟨p, hp⟩ := Int.eq_ofNat_of_zero_le h3.1
  exact ⟨p, 12 + p, hp, rfl, by omega, by unfold logPlace; rw [if_neg (by rintro ⟨h, _⟩; omega), if_pos ⟨h1, h2⟩, hp]; simp⟩
theorem place_sv0 {x : Pt} (h1 : x.kind = 4) (h2 : isSv x.who = false) : logPlace x = none := by
  unfold logPlace
  rw [if_neg (by rintro ⟨_, h⟩; rw [h2] at h; cases h), if_neg (by rintro ⟨h, _⟩; omega)]
theorem place_cl0 {x : Pt} (h1 : x.kind = 3) (h2 : isCl x.who = false) : logPlace x = none := by
  unfold logPlace
  rw [if_neg (by rintro ⟨h, _⟩; omega), if_neg (by rintro ⟨_, h⟩; rw [h2] at h; cases h)]
theorem place_no {x : Pt} (h1 : x.kind ≠ 4) (h2 : x.kind ≠ 3) : logPlace x = none := by
  unfold logPlace
  rw [if_neg (by rintro ⟨h, _⟩; exact h1 h), if_neg (by rintro ⟨h, _⟩; exact h2 h)]
theorem log_take_len (l : List Pt) (j i : Nat) : (logOf (l.take j) i).length ≤ l.length := Nat.le_trans (logOf_len _ _) (by rw [List.length_take]; omega)
theorem Vr.grownP {w w' : World} {b : Nat} {r : Option Nat} {cs : List Value} (h : Vr w b cs) (hg : w.grownBy w' r) (hne : r ≠ some b) : Vr w' b cs where
  lt := Nat.lt_of_lt_of_le h.lt hg.size
  cells := fun j v hv => (World.cell?_of_block (w := w) (a := ⟨b, j, none⟩) (hg.block b h.lt (fun e => hne e.symm))).trans (h.cells j v hv)
  free := fun j hj => (World.frozen?_of_block (w := w) (a := ⟨b, j, none⟩) (hg.block b h.lt (fun e => hne e.symm))).trans (h.free j hj)
theorem vr_set_far {w : World} {b g o : Nat} {u : Value} {cs : List Value} (h : Vr w b cs) (hne : b ≠ g) : Vr (w.setCell ⟨g, o, none⟩ u) b cs :=
  ⟨by have := h.lt; simpa [World.setCell] using this, fun j v hv => (World.cell?_of_block (w := w) (w' := w.setCell ⟨g, o, none⟩ u) (a := ⟨b, j, none⟩) (Below.heap_setCell _ _ _ _ hne)).trans (h.cells j v hv),
    fun j hj => (World.frozen?_of_block (w := w) (w' := w.setCell ⟨g, o, none⟩ u) (a := ⟨b, j, none⟩) (Below.heap_setCell _ _ _ _ hne)).trans (h.free j hj)⟩
set_option maxRecDepth 100000 in
set_option maxHeartbeats 8000000 in
theorem trLogs_any (A : Option Addr) (c : Nat) (l : List Pt) (w : World) (hp : PtsIn w A l) (hn : l.length ≤ 1099511627776) :
    Calls Tryz.prog 27 #[.slice A l.length c] w (RetLogs (logOf l) w) := by
  have HP := Lib.hid hp
  clear hp
  obtain ⟨i0, hi, hz0, hz1, hz2⟩ := info_parts infoSlr
  have HI := Lib.hid hi
  have HZ0 := Lib.hid hz0
  have HZ1 := Lib.hid hz1
  have HZ2 := Lib.hid hz2
  clear hi hz0 hz1 hz2
  have hmk := mkLogs w
  have HT0 : Hid (LogTab w l w.heap.size 0 (fun _ => .slice none 0 0) (w.alloc (.cells (madeCells #[.slice none 0 0] 18) 58))) := Lib.hid (Tab.rename (Tab.new (Below.refl _ _) rfl) (fun _ _ => rfl))
  go_enter Tryz.func27, Tryz.ntmps27
  go_upto_region 2 with fail
  clear hmk
  generalize w.alloc (.cells (madeCells #[.slice none 0 0] 18) 58) = w1 at HT0 ⊢
  generalize hg0 : w.heap.size = g at HT0 ⊢
  have hg1 : w.heap.size ≤ g := Nat.le_of_eq hg0
  clear hg0
  go_wp2_with fail
  go_loopw [10] (fun i wr => ∃ (j : Nat) (vs : Nat → Value), i = .int .i64 j ∧ j ≤ l.length ∧ LogTab w l g j vs wr) (fun i _ => l.length - (intOf i).toNat)
  case atStart => exact ⟨0, _, rfl, by omega, HT0.out⟩
  case round =>
    obtain ⟨j, vs, rfl, hj, hst⟩ := hrel
    have HT : Hid (Tab w 58 60 2 slC 18 g (fun i => logOf (l.take j) i) vs wr) := Lib.hid hst
    clear hst
    by_cases hlt : j < l.length
    · have i0' : (0 : Int) ≤ (j : Int) := by omega
      have i1 : (j : Int) < (l.length : Int) := by omega
      obtain ⟨b, off, hA, hg, hcc⟩ := HP.out.at hlt
      subst hA
      obtain ⟨x, hx⟩ : ∃ x, x = l[j] := ⟨_, rfl⟩
      have HRg := Lib.hid (hcc wr HT.out.low)
      rw [← hx] at HRg
      have HXe := Lib.hid hx
      clear hcc hx
      have HX0 := Lib.hid (Vr.new wr (ptC pt0) 40)
      have HX := Lib.hid (HX0.out.sets (ptC x) rfl)
      have HBr := Lib.hid (below_gr (below_new wr (.cells (ptC pt0).toArray 40)) (grown_vs (b := wr.heap.size) (ptC x)) (Nat.le_refl _))
      have hgb : g < wr.heap.size := HT.out.tab.lt
      have HFar : Hid (∀ i, i < 18 → (vs i).ownBlock ≠ some wr.heap.size) := Lib.hid (fun i h e1 => absurd ((HT.out.rows i h).lt _ e1).2 (Nat.lt_irrefl _))
      go_upto_region 5 with (first
        | (refine wpList_load_mid rfl 40 _ rfl b (off + j * 28) rfl (ptC x) _ HRg.out Tryz.underlying40 rfl (infoPt x) ?_)
        | (refine wpList_store_mid rfl 40 _ _ rfl wr.heap.size 0 (ptC x).toArray rfl rfl ?_ (infoPt x) (ptC_one x) ?_; · exact HX0.out.there rfl))
      try simp only [List.toList_toArray]
      clear HX0 HRg
      change Code.wp _ _ _ _ ((wr.alloc (.cells (ptC pt0).toArray 40)).setCells wr.heap.size 0 (ptC x))
      generalize (wr.alloc (.cells (ptC pt0).toArray 40)).setCells wr.heap.size 0 (ptC x) = w3 at HX HBr ⊢
      generalize wr.heap.size = b3 at HX hgb HFar ⊢
      have HT := Lib.hid (Tab.below HT.out HBr.out)
      have HBr := Lib.hid (Below.refl w3.heap.size w3)
      have c1 := HX.out.cells 1 _ rfl
      have c2 := HX.out.cells 2 _ rfl
      have l3 := HX.out.lt
      by_cases h4 : x.kind = 4
      · have t4 : (x.kind == 4) = true := by simpa using h4
        have t3 : (x.kind == 3) = false := by simp; omega
        cases hs : isSv x.who with
        | true =>
          obtain ⟨i, hw, hi12, hpl⟩ := place_sv h4 hs
          have hi18 : i < 18 := by omega
          have HPl := Lib.hid hpl
          have j0 : (0 : Int) ≤ (i : Int) := by omega
          have j1 : (i : Int) < 18 := by omega
          rw [hw] at c2
          rw [hw] at hs
          have HSv := Lib.hid (trServer_any (i : Int) w3)
          rw [hs] at HSv
          clear hs hpl hi12 h4
          go_upto_region 6 with fail
          go_wp2_with fail
          refine HSv.out.mono ?_
          rintro e w4 ⟨rfl, hw4⟩; subst hw4
          clear HSv
          go_upto_region 11 with fail
          clear c1 c2 l3
          refine wp_region_noPanic ?_
          have HX := Lib.hid (HX.out.below (Below.refl _ _).drew)
          have HT := Lib.hid (Tab.below HT.out (Below.refl _ _).drew)
          generalize hv : w4.drew = v0 at HX HT
          have hS0 : World.cell? v0 ⟨b3, 3, none⟩ = some (.int .i64 x.slot) ∧ World.cell? v0 ⟨b3, 5, none⟩ = some (.string ⟨x.text.toArray⟩) := ⟨HX.out.cells 3 _ rfl, HX.out.cells 5 _ rfl⟩
          refine wp_region_held_drew (S := fun W => World.cell? W ⟨b3, 3, none⟩ = some (.int .i64 x.slot) ∧ World.cell? W ⟨b3, 5, none⟩ = some (.string ⟨x.text.toArray⟩)) (by kernel_rfl) (by rw [hv]; exact hS0) (fun hHeld => ?_)
          rw [hv] at hHeld ⊢
          clear hv
          refine wpAnyH_take (i := 0) (oi := _) (v := ?_) rfl (by kernel_rfl) (by kernel_rfl) (by kernel_rfl) (fun _ _ _ h => h) (Or.inl ⟨by rfl, ?_⟩) (by assumption) ?_
          rotate_left
          · intro W hSw; (try dsimp only at hSw); go_simp; try with_reducible rfl
          try simp only [Act.put, List.setIfInBounds_toArray, List.set_cons_zero, List.set_cons_succ, List.getElem_toArray, List.getElem_cons_zero]
          refine wpAnyH_take (i := 1) (oi := _) (v := ?_) rfl (by kernel_rfl) (by kernel_rfl) (by kernel_rfl) (fun _ _ _ h => h) (Or.inl ⟨by rfl, ?_⟩) (by assumption) ?_
          rotate_left
          · intro W hSw; (try dsimp only at hSw); go_simp; try with_reducible rfl
          try simp only [Act.put, List.setIfInBounds_toArray, List.set_cons_zero, List.set_cons_succ, List.getElem_toArray, List.getElem_cons_succ, List.getElem_cons_zero]
          refine wpAnyH_take (i := 2) (oi := _) (v := ?_) rfl (by kernel_rfl) (by kernel_rfl) (by kernel_rfl) (fun _ _ _ h => h) (Or.inl ⟨by rfl, ?_⟩) (by assumption) ?_
          rotate_left
          · intro W hSw; (try dsimp only at hSw); go_simp; try with_reducible rfl
          try simp only [Act.put, List.setIfInBounds_toArray, List.set_cons_zero, List.set_cons_succ, List.getElem_toArray, List.getElem_cons_succ, List.getElem_cons_zero]
          refine wpAnyH_take (i := 3) (oi := _) (v := ?_) rfl (by kernel_rfl) (by kernel_rfl) (by kernel_rfl) (fun _ _ _ h => h) (Or.inl ⟨by rfl, ?_⟩) (by assumption) ?_
          rotate_left
          · intro W hSw; (try dsimp only at hSw); go_simp; try with_reducible rfl
          try simp only [Act.put, List.setIfInBounds_toArray, List.set_cons_zero, List.set_cons_succ, List.getElem_toArray, List.getElem_cons_succ, List.getElem_cons_zero]
          refine wpAnyH_take (i := 4) (oi := _) (v := ?_) rfl (by kernel_rfl) (by kernel_rfl) (by kernel_rfl) (fun _ _ _ h => h) (Or.inl ⟨by rfl, ?_⟩) (by assumption) ?_
          rotate_left
          · intro W hSw; (try dsimp only at hSw); go_simp; try with_reducible rfl
          try simp only [Act.put, List.setIfInBounds_toArray, List.set_cons_zero, List.set_cons_succ, List.getElem_toArray, List.getElem_cons_succ, List.getElem_cons_zero]
          refine wpAnyH_take (i := 6) (oi := _) (v := ?_) rfl (by kernel_rfl) (by kernel_rfl) (by kernel_rfl) (fun _ _ _ h => h) (Or.inl ⟨by rfl, ?_⟩) (by assumption) ?_
          rotate_left
          · intro W hSw; (try dsimp only at hSw); go_simp; try with_reducible rfl
          try simp only [Act.put, List.setIfInBounds_toArray, List.set_cons_zero, List.set_cons_succ, List.getElem_toArray, List.getElem_cons_succ, List.getElem_cons_zero]
          refine wpAnyH_take (i := 7) (oi := _) (v := ?_) rfl (by kernel_rfl) (by kernel_rfl) (by kernel_rfl) (fun _ _ _ h => h) (Or.inl ⟨by rfl, ?_⟩) (by assumption) ?_
          rotate_left
          · intro W hSw; (try dsimp only at hSw); go_simp; try with_reducible rfl
          try simp only [Act.put, List.setIfInBounds_toArray, List.set_cons_zero, List.set_cons_succ, List.getElem_toArray, List.getElem_cons_succ, List.getElem_cons_zero]
          refine wpAnyH_take (i := 8) (oi := _) (v := ?_) rfl (by kernel_rfl) (by kernel_rfl) (by kernel_rfl) (fun _ _ _ h => h) (Or.inl ⟨by rfl, ?_⟩) (by assumption) ?_
          rotate_left
          · intro W hSw; (try dsimp only at hSw); go_simp; try with_reducible rfl
          try simp only [Act.put, List.setIfInBounds_toArray, List.set_cons_zero, List.set_cons_succ, List.getElem_toArray, List.getElem_cons_succ, List.getElem_cons_zero]
          refine wpAnyH_take (i := 9) (oi := _) (v := ?_) rfl (by kernel_rfl) (by kernel_rfl) (by kernel_rfl) (fun _ _ _ h => h) (Or.inl ⟨by rfl, ?_⟩) (by assumption) ?_
          rotate_left
          · intro W hSw; (try dsimp only at hSw); go_simp; try with_reducible rfl
          try simp only [Act.put, List.setIfInBounds_toArray, List.set_cons_zero, List.set_cons_succ, List.getElem_toArray, List.getElem_cons_succ, List.getElem_cons_zero]
          refine wpAnyH_take (i := 10) (oi := _) (v := ?_) rfl (by kernel_rfl) (by kernel_rfl) (by kernel_rfl) (fun _ _ _ h => h) (Or.inl ⟨by rfl, ?_⟩) (by assumption) ?_
          rotate_left
          · intro W hSw; (try dsimp only at hSw); go_simp; try with_reducible rfl
          try simp only [Act.put, List.setIfInBounds_toArray, List.set_cons_zero, List.set_cons_succ, List.getElem_toArray, List.getElem_cons_succ, List.getElem_cons_zero]
          refine wpAnyH_ready (rs := [5, 11]) (by kernel_rfl) (by simp) ?_
          refine AllReadyH.cons (o := _) rfl (fun K hK => ?_) (AllReadyH.cons (o := _) rfl (fun K hK => ?_) AllReadyH.nil)
          · have hat := HT.out.at hi18
            go_simp
            clear hat
            refine hK.out _ _ hS0 (fun hHeld => ?_)
            clear hK K
            try simp only [Act.put, List.setIfInBounds_toArray, List.set_cons_zero, List.set_cons_succ, List.getElem_toArray, List.getElem_cons_succ, List.getElem_cons_zero]
            refine wpAnyH_ready (rs := [11]) (by kernel_rfl) (by simp) ?_
            refine AllReadyH.cons (o := _) rfl (fun K hK => ?_) AllReadyH.nil
            go_simp
            have hs := below_new v0 (.cells #[.int .i64 x.slot, .string ⟨x.text.toArray⟩] 60)
            have HN := Lib.hid (World.news_of_block (cs := #[.int .i64 x.slot, .string ⟨x.text.toArray⟩]) (t := 60) (fr := (0, 0)) (heap_alloc_new v0 (.cells #[.int .i64 x.slot, .string ⟨x.text.toArray⟩] 60)))
            have HX := Lib.hid (HX.out.below hs)
            have HT := Lib.hid (Tab.below HT.out hs)
            clear hs
            generalize v0.alloc (.cells #[.int .i64 x.slot, .string ⟨x.text.toArray⟩] 60) = v1 at HX HT HN ⊢
            generalize v0.heap.size = b9 at HN ⊢
            have hS1 : World.cell? v1 ⟨b3, 3, none⟩ = some (.int .i64 x.slot) ∧ World.cell? v1 ⟨b3, 5, none⟩ = some (.string ⟨x.text.toArray⟩) := ⟨HX.out.cells 3 _ rfl, HX.out.cells 5 _ rfl⟩
            refine hK.out _ _ hS1 (fun hHeld => ?_)
            clear hK K
            try simp only [Act.put, List.setIfInBounds_toArray, List.set_cons_zero, List.set_cons_succ, List.getElem_toArray, List.getElem_cons_succ, List.getElem_cons_zero]
            refine wpAnyH_ready (rs := [12]) (by kernel_rfl) (by simp) ?_
            refine AllReadyH.cons (o := _) rfl (fun K hK => ?_) AllReadyH.nil
            have hgz : g + 1 ≤ v1.heap.size := HT.out.tab.lt
            have hlen := log_take_len l j i
            refine step_append_lies _ (by rfl) _ _ _ (by rfl) (g + 1) 60 i0 _ 2 24 Tryz.underlying58 HI.out HZ0.out HZ1.out HZ2.out rfl (by decide) _ _ _ (by rfl) (HT.out.rows i hi18) _ 1 1 #[.int .i64 x.slot, .string ⟨x.text.toArray⟩].toList (by rfl) (by rfl) HN.out (by simp [Value.oneCell']) (by omega) (by simp only [maxLen]; omega) (by omega) hgz _ rfl ?_
            intro g2 cap v2 hown hgrow hat hlt2
            have HR := Lib.hid (LogTab.more HT.out hlt (by rw [← HXe.out]; exact HPl.out) (w4 := v2) (by rw [← HXe.out]; exact hown) hgrow (by rcases hat with h9 | h9; exact .inl h9.symm; exact .inr (by rw [← h9]; rfl)))
            have HF := Lib.hid (HT.out.tab.of_block (w' := v2) (hgrow.block g HT.out.tab.lt (fun e1 => by have := ((HT.out.rows i hi18).lt g e1.symm).1; omega)))
            have HX := Lib.hid (HX.out.grownP hgrow (HFar.out i hi18))
            clear hown hgrow hat hlt2 HT
            have hS2 : World.cell? v2 ⟨b3, 3, none⟩ = some (.int .i64 x.slot) ∧ World.cell? v2 ⟨b3, 5, none⟩ = some (.string ⟨x.text.toArray⟩) := ⟨HX.out.cells 3 _ rfl, HX.out.cells 5 _ rfl⟩
            refine hK.out _ _ hS2 (fun hHeld => ?_)
            clear hK K
            try simp only [Act.put, List.setIfInBounds_toArray, List.set_cons_zero, List.set_cons_succ, List.getElem_toArray, List.getElem_cons_succ, List.getElem_cons_zero]
            refine wpAnyH_take (i := 13) (oi := _) (v := ?_) rfl (by kernel_rfl) (by kernel_rfl) (by kernel_rfl) (fun _ _ _ h => h) (Or.inl ⟨by rfl, ?_⟩) (by assumption) ?_
            rotate_left
            · intro W hSw; (try dsimp only at hSw); go_simp; try with_reducible rfl
            try simp only [Act.put, List.setIfInBounds_toArray, List.set_cons_zero, List.set_cons_succ, List.getElem_toArray, List.getElem_cons_succ, List.getElem_cons_zero]
            refine wpAnyH_ready (rs := [14]) (by kernel_rfl) (by simp) ?_
            refine AllReadyH.cons (o := _) rfl (fun K hK => ?_) AllReadyH.nil
            have hfr := HF.out.frozen i
            have hce := HF.out.cell hi18
            go_simp
            clear hfr hce
            have HX := Lib.hid (vr_set_far (g := g) (o := i) (u := .slice (some ⟨g2, 0, none⟩) ((logOf (l.take j) i).length + 1) cap) HX.out (by omega))
            generalize v2.setCell ⟨g, i, none⟩ (.slice (some ⟨g2, 0, none⟩) ((logOf (l.take j) i).length + 1) cap) = v3 at HX HR ⊢
            clear HF
            have hS3 : World.cell? v3 ⟨b3, 3, none⟩ = some (.int .i64 x.slot) ∧ World.cell? v3 ⟨b3, 5, none⟩ = some (.string ⟨x.text.toArray⟩) := ⟨HX.out.cells 3 _ rfl, HX.out.cells 5 _ rfl⟩
            refine hK.out _ _ hS3 (fun hHeld => ?_)
            clear hK K
            try simp only [Act.put, List.setIfInBounds_toArray, List.set_cons_zero, List.set_cons_succ, List.getElem_toArray, List.getElem_cons_succ, List.getElem_cons_zero]
            refine wpAnyH_done (by kernel_rfl) ?_ _
            refine NoPanic.normal ?_
            clear hS0 hS1 hS2 hS3
            go_wp2_with fail
            go_roundw
            case rel => exact ⟨j + 1, _, by go_num, by omega, HR.out⟩
            case measure => simp [intOf]; omega
          · go_simp
            have hs := below_new v0 (.cells #[.int .i64 x.slot, .string ⟨x.text.toArray⟩] 60)
            have HN := Lib.hid (World.news_of_block (cs := #[.int .i64 x.slot, .string ⟨x.text.toArray⟩]) (t := 60) (fr := (0, 0)) (heap_alloc_new v0 (.cells #[.int .i64 x.slot, .string ⟨x.text.toArray⟩] 60)))
            have HX := Lib.hid (HX.out.below hs)
            have HT := Lib.hid (Tab.below HT.out hs)
            clear hs
            generalize v0.alloc (.cells #[.int .i64 x.slot, .string ⟨x.text.toArray⟩] 60) = v1 at HX HT HN ⊢
            generalize v0.heap.size = b9 at HN ⊢
            have hS1 : World.cell? v1 ⟨b3, 3, none⟩ = some (.int .i64 x.slot) ∧ World.cell? v1 ⟨b3, 5, none⟩ = some (.string ⟨x.text.toArray⟩) := ⟨HX.out.cells 3 _ rfl, HX.out.cells 5 _ rfl⟩
            refine hK.out _ _ hS1 (fun hHeld => ?_)
            clear hK K
            try simp only [Act.put, List.setIfInBounds_toArray, List.set_cons_zero, List.set_cons_succ, List.getElem_toArray, List.getElem_cons_succ, List.getElem_cons_zero]
            refine wpAnyH_ready (rs := [5]) (by kernel_rfl) (by simp) ?_
            refine AllReadyH.cons (o := _) rfl (fun K hK => ?_) AllReadyH.nil
            have hat := HT.out.at hi18
            go_simp
            clear hat
            refine hK.out _ _ hS1 (fun hHeld => ?_)
            clear hK K
            try simp only [Act.put, List.setIfInBounds_toArray, List.set_cons_zero, List.set_cons_succ, List.getElem_toArray, List.getElem_cons_succ, List.getElem_cons_zero]
            refine wpAnyH_ready (rs := [12]) (by kernel_rfl) (by simp) ?_
            refine AllReadyH.cons (o := _) rfl (fun K hK => ?_) AllReadyH.nil
            have hgz : g + 1 ≤ v1.heap.size := HT.out.tab.lt
            have hlen := log_take_len l j i
            refine step_append_lies _ (by rfl) _ _ _ (by rfl) (g + 1) 60 i0 _ 2 24 Tryz.underlying58 HI.out HZ0.out HZ1.out HZ2.out rfl (by decide) _ _ _ (by rfl) (HT.out.rows i hi18) _ 1 1 #[.int .i64 x.slot, .string ⟨x.text.toArray⟩].toList (by rfl) (by rfl) HN.out (by simp [Value.oneCell']) (by omega) (by simp only [maxLen]; omega) (by omega) hgz _ rfl ?_
            intro g2 cap v2 hown hgrow hat hlt2
            have HR := Lib.hid (LogTab.more HT.out hlt (by rw [← HXe.out]; exact HPl.out) (w4 := v2) (by rw [← HXe.out]; exact hown) hgrow (by rcases hat with h9 | h9; exact .inl h9.symm; exact .inr (by rw [← h9]; rfl)))
            have HF := Lib.hid (HT.out.tab.of_block (w' := v2) (hgrow.block g HT.out.tab.lt (fun e1 => by have := ((HT.out.rows i hi18).lt g e1.symm).1; omega)))
            have HX := Lib.hid (HX.out.grownP hgrow (HFar.out i hi18))
            clear hown hgrow hat hlt2 HT
            have hS2 : World.cell? v2 ⟨b3, 3, none⟩ = some (.int .i64 x.slot) ∧ World.cell? v2 ⟨b3, 5, none⟩ = some (.string ⟨x.text.toArray⟩) := ⟨HX.out.cells 3 _ rfl, HX.out.cells 5 _ rfl⟩
            refine hK.out _ _ hS2 (fun hHeld => ?_)
            clear hK K
            try simp only [Act.put, List.setIfInBounds_toArray, List.set_cons_zero, List.set_cons_succ, List.getElem_toArray, List.getElem_cons_succ, List.getElem_cons_zero]
            refine wpAnyH_take (i := 13) (oi := _) (v := ?_) rfl (by kernel_rfl) (by kernel_rfl) (by kernel_rfl) (fun _ _ _ h => h) (Or.inl ⟨by rfl, ?_⟩) (by assumption) ?_
            rotate_left
            · intro W hSw; (try dsimp only at hSw); go_simp; try with_reducible rfl
            try simp only [Act.put, List.setIfInBounds_toArray, List.set_cons_zero, List.set_cons_succ, List.getElem_toArray, List.getElem_cons_succ, List.getElem_cons_zero]
            refine wpAnyH_ready (rs := [14]) (by kernel_rfl) (by simp) ?_
            refine AllReadyH.cons (o := _) rfl (fun K hK => ?_) AllReadyH.nil
            have hfr := HF.out.frozen i
            have hce := HF.out.cell hi18
            go_simp
            clear hfr hce
            have HX := Lib.hid (vr_set_far (g := g) (o := i) (u := .slice (some ⟨g2, 0, none⟩) ((logOf (l.take j) i).length + 1) cap) HX.out (by omega))
            generalize v2.setCell ⟨g, i, none⟩ (.slice (some ⟨g2, 0, none⟩) ((logOf (l.take j) i).length + 1) cap) = v3 at HX HR ⊢
            clear HF
            have hS3 : World.cell? v3 ⟨b3, 3, none⟩ = some (.int .i64 x.slot) ∧ World.cell? v3 ⟨b3, 5, none⟩ = some (.string ⟨x.text.toArray⟩) := ⟨HX.out.cells 3 _ rfl, HX.out.cells 5 _ rfl⟩
            refine hK.out _ _ hS3 (fun hHeld => ?_)
            clear hK K
            try simp only [Act.put, List.setIfInBounds_toArray, List.set_cons_zero, List.set_cons_succ, List.getElem_toArray, List.getElem_cons_succ, List.getElem_cons_zero]
            refine wpAnyH_done (by kernel_rfl) ?_ _
            refine NoPanic.normal ?_
            clear hS0 hS1 hS2 hS3
            go_wp2_with fail
            go_roundw
            case rel => exact ⟨j + 1, _, by go_num, by omega, HR.out⟩
            case measure => simp [intOf]; omega
        | false =>
          have HN : Hid (LogTab w l g (j + 1) vs w3) := Lib.hid (LogTab.skip HT.out hlt (by rw [← HXe.out]; exact place_sv0 h4 hs))
          go_wp2_with fail
          refine (trServer_any x.who w3).mono ?_
          rintro e w4 ⟨rfl, hw4⟩; subst hw4
          rw [hs]
          clear hs h4
          go_wp2_with fail
          go_roundw
          case rel => exact ⟨j + 1, vs, by go_num, by omega, HN.out⟩
          case measure => simp [intOf]; omega
      · have t4 : (x.kind == 4) = false := by simpa using h4
        by_cases h3 : x.kind = 3
        · have t3 : (x.kind == 3) = true := by simpa using h3
          cases hs : isCl x.who with
          | true =>
            obtain ⟨p, i, hw, hip, hp6, hpl⟩ := place_cl h3 hs
            have hi18 : i < 18 := by omega
            have HPl := Lib.hid hpl
            have j0 : (0 : Int) ≤ (i : Int) := by omega
            have j1 : (i : Int) < 18 := by omega
            have e8 : IntKind.i64.wrap (12 + (p : Int)) = (i : Int) := by rw [show (12 : Int) + (p : Int) = (i : Int) from by omega]; exact IntWalk.i64_in _ (by omega)
            have k0 : (0 : Int) ≤ 12 + (p : Int) := by omega
            have k1 : 12 + (p : Int) < 18 := by omega
            have e9 : (12 + (p : Int)).toNat = i := by omega
            clear hip
            rw [hw] at c2
            rw [hw] at hs
            have HSv := Lib.hid (trClient_any (p : Int) w3)
            rw [hs] at HSv
            clear hs hpl hp6 h3 h4
            go_wp2_with fail
            refine HSv.out.mono ?_
            rintro e w4 ⟨rfl, hw4⟩; subst hw4
            clear HSv
            go_upto_region 11 with fail
            clear c1 c2 l3
            refine wp_region_noPanic ?_
            have HX := Lib.hid (HX.out.below (Below.refl _ _).drew)
            have HT := Lib.hid (Tab.below HT.out (Below.refl _ _).drew)
            generalize hv : w4.drew = v0 at HX HT
            have hS0 : World.cell? v0 ⟨b3, 3, none⟩ = some (.int .i64 x.slot) ∧ World.cell? v0 ⟨b3, 5, none⟩ = some (.string ⟨x.text.toArray⟩) := ⟨HX.out.cells 3 _ rfl, HX.out.cells 5 _ rfl⟩
            refine wp_region_held_drew (S := fun W => World.cell? W ⟨b3, 3, none⟩ = some (.int .i64 x.slot) ∧ World.cell? W ⟨b3, 5, none⟩ = some (.string ⟨x.text.toArray⟩)) (by kernel_rfl) (by rw [hv]; exact hS0) (fun hHeld => ?_)
            rw [hv] at hHeld ⊢
            clear hv
            refine wpAnyH_take (i := 0) (oi := _) (v := ?_) rfl (by kernel_rfl) (by kernel_rfl) (by kernel_rfl) (fun _ _ _ h => h) (Or.inl ⟨by rfl, ?_⟩) (by assumption) ?_
            rotate_left
            · intro W hSw; (try dsimp only at hSw); go_simp; try with_reducible rfl
            try simp only [Act.put, List.setIfInBounds_toArray, List.set_cons_zero, List.set_cons_succ, List.getElem_toArray, List.getElem_cons_zero]
            refine wpAnyH_take (i := 1) (oi := _) (v := ?_) rfl (by kernel_rfl) (by kernel_rfl) (by kernel_rfl) (fun _ _ _ h => h) (Or.inl ⟨by rfl, ?_⟩) (by assumption) ?_
            rotate_left
            · intro W hSw; (try dsimp only at hSw); go_simp; try with_reducible rfl
            try simp only [Act.put, List.setIfInBounds_toArray, List.set_cons_zero, List.set_cons_succ, List.getElem_toArray, List.getElem_cons_succ, List.getElem_cons_zero]
            refine wpAnyH_take (i := 2) (oi := _) (v := ?_) rfl (by kernel_rfl) (by kernel_rfl) (by kernel_rfl) (fun _ _ _ h => h) (Or.inl ⟨by rfl, ?_⟩) (by assumption) ?_
            rotate_left
            · intro W hSw; (try dsimp only at hSw); go_simp; try with_reducible rfl
            try simp only [Act.put, List.setIfInBounds_toArray, List.set_cons_zero, List.set_cons_succ, List.getElem_toArray, List.getElem_cons_succ, List.getElem_cons_zero]
            refine wpAnyH_take (i := 3) (oi := _) (v := ?_) rfl (by kernel_rfl) (by kernel_rfl) (by kernel_rfl) (fun _ _ _ h => h) (Or.inl ⟨by rfl, ?_⟩) (by assumption) ?_
            rotate_left
            · intro W hSw; (try dsimp only at hSw); go_simp; try with_reducible rfl
            try simp only [Act.put, List.setIfInBounds_toArray, List.set_cons_zero, List.set_cons_succ, List.getElem_toArray, List.getElem_cons_succ, List.getElem_cons_zero]
            refine wpAnyH_take (i := 4) (oi := _) (v := ?_) rfl (by kernel_rfl) (by kernel_rfl) (by kernel_rfl) (fun _ _ _ h => h) (Or.inl ⟨by rfl, ?_⟩) (by assumption) ?_
            rotate_left
            · intro W hSw; (try dsimp only at hSw); go_simp; try with_reducible rfl
            try simp only [Act.put, List.setIfInBounds_toArray, List.set_cons_zero, List.set_cons_succ, List.getElem_toArray, List.getElem_cons_succ, List.getElem_cons_zero]
            refine wpAnyH_take (i := 6) (oi := _) (v := ?_) rfl (by kernel_rfl) (by kernel_rfl) (by kernel_rfl) (fun _ _ _ h => h) (Or.inl ⟨by rfl, ?_⟩) (by assumption) ?_
            rotate_left
            · intro W hSw; (try dsimp only at hSw); go_simp; try with_reducible rfl
            try simp only [Act.put, List.setIfInBounds_toArray, List.set_cons_zero, List.set_cons_succ, List.getElem_toArray, List.getElem_cons_succ, List.getElem_cons_zero]
            refine wpAnyH_take (i := 7) (oi := _) (v := ?_) rfl (by kernel_rfl) (by kernel_rfl) (by kernel_rfl) (fun _ _ _ h => h) (Or.inl ⟨by rfl, ?_⟩) (by assumption) ?_
            rotate_left
            · intro W hSw; (try dsimp only at hSw); go_simp; try with_reducible rfl
            try simp only [Act.put, List.setIfInBounds_toArray, List.set_cons_zero, List.set_cons_succ, List.getElem_toArray, List.getElem_cons_succ, List.getElem_cons_zero]
            refine wpAnyH_take (i := 8) (oi := _) (v := ?_) rfl (by kernel_rfl) (by kernel_rfl) (by kernel_rfl) (fun _ _ _ h => h) (Or.inl ⟨by rfl, ?_⟩) (by assumption) ?_
            rotate_left
            · intro W hSw; (try dsimp only at hSw); go_simp; try with_reducible rfl
            try simp only [Act.put, List.setIfInBounds_toArray, List.set_cons_zero, List.set_cons_succ, List.getElem_toArray, List.getElem_cons_succ, List.getElem_cons_zero]
            refine wpAnyH_take (i := 9) (oi := _) (v := ?_) rfl (by kernel_rfl) (by kernel_rfl) (by kernel_rfl) (fun _ _ _ h => h) (Or.inl ⟨by rfl, ?_⟩) (by assumption) ?_
            rotate_left
            · intro W hSw; (try dsimp only at hSw); go_simp; try with_reducible rfl
            try simp only [Act.put, List.setIfInBounds_toArray, List.set_cons_zero, List.set_cons_succ, List.getElem_toArray, List.getElem_cons_succ, List.getElem_cons_zero]
            refine wpAnyH_take (i := 10) (oi := _) (v := ?_) rfl (by kernel_rfl) (by kernel_rfl) (by kernel_rfl) (fun _ _ _ h => h) (Or.inl ⟨by rfl, ?_⟩) (by assumption) ?_
            rotate_left
            · intro W hSw; (try dsimp only at hSw); go_simp; try with_reducible rfl
            try simp only [Act.put, List.setIfInBounds_toArray, List.set_cons_zero, List.set_cons_succ, List.getElem_toArray, List.getElem_cons_succ, List.getElem_cons_zero]
            refine wpAnyH_ready (rs := [5, 11]) (by kernel_rfl) (by simp) ?_
            refine AllReadyH.cons (o := _) rfl (fun K hK => ?_) (AllReadyH.cons (o := _) rfl (fun K hK => ?_) AllReadyH.nil)
            · have hat := HT.out.at hi18
              go_simp
              clear hat
              refine hK.out _ _ hS0 (fun hHeld => ?_)
              clear hK K
              try simp only [Act.put, List.setIfInBounds_toArray, List.set_cons_zero, List.set_cons_succ, List.getElem_toArray, List.getElem_cons_succ, List.getElem_cons_zero]
              refine wpAnyH_ready (rs := [11]) (by kernel_rfl) (by simp) ?_
              refine AllReadyH.cons (o := _) rfl (fun K hK => ?_) AllReadyH.nil
              go_simp
              have hs := below_new v0 (.cells #[.int .i64 x.slot, .string ⟨x.text.toArray⟩] 60)
              have HN := Lib.hid (World.news_of_block (cs := #[.int .i64 x.slot, .string ⟨x.text.toArray⟩]) (t := 60) (fr := (0, 0)) (heap_alloc_new v0 (.cells #[.int .i64 x.slot, .string ⟨x.text.toArray⟩] 60)))
              have HX := Lib.hid (HX.out.below hs)
              have HT := Lib.hid (Tab.below HT.out hs)
              clear hs
              generalize v0.alloc (.cells #[.int .i64 x.slot, .string ⟨x.text.toArray⟩] 60) = v1 at HX HT HN ⊢
              generalize v0.heap.size = b9 at HN ⊢
              have hS1 : World.cell? v1 ⟨b3, 3, none⟩ = some (.int .i64 x.slot) ∧ World.cell? v1 ⟨b3, 5, none⟩ = some (.string ⟨x.text.toArray⟩) := ⟨HX.out.cells 3 _ rfl, HX.out.cells 5 _ rfl⟩
              refine hK.out _ _ hS1 (fun hHeld => ?_)
              clear hK K
              try simp only [Act.put, List.setIfInBounds_toArray, List.set_cons_zero, List.set_cons_succ, List.getElem_toArray, List.getElem_cons_succ, List.getElem_cons_zero]
              refine wpAnyH_ready (rs := [12]) (by kernel_rfl) (by simp) ?_
              refine AllReadyH.cons (o := _) rfl (fun K hK => ?_) AllReadyH.nil
              have hgz : g + 1 ≤ v1.heap.size := HT.out.tab.lt
              have hlen := log_take_len l j i
              refine step_append_lies _ (by rfl) _ _ _ (by rfl) (g + 1) 60 i0 _ 2 24 Tryz.underlying58 HI.out HZ0.out HZ1.out HZ2.out rfl (by decide) _ _ _ (by rfl) (HT.out.rows i hi18) _ 1 1 #[.int .i64 x.slot, .string ⟨x.text.toArray⟩].toList (by rfl) (by rfl) HN.out (by simp [Value.oneCell']) (by omega) (by simp only [maxLen]; omega) (by omega) hgz _ rfl ?_
              intro g2 cap v2 hown hgrow hat hlt2
              have HR := Lib.hid (LogTab.more HT.out hlt (by rw [← HXe.out]; exact HPl.out) (w4 := v2) (by rw [← HXe.out]; exact hown) hgrow (by rcases hat with h9 | h9; exact .inl h9.symm; exact .inr (by rw [← h9]; rfl)))
              have HF := Lib.hid (HT.out.tab.of_block (w' := v2) (hgrow.block g HT.out.tab.lt (fun e1 => by have := ((HT.out.rows i hi18).lt g e1.symm).1; omega)))
              have HX := Lib.hid (HX.out.grownP hgrow (HFar.out i hi18))
              clear hown hgrow hat hlt2 HT
              have hS2 : World.cell? v2 ⟨b3, 3, none⟩ = some (.int .i64 x.slot) ∧ World.cell? v2 ⟨b3, 5, none⟩ = some (.string ⟨x.text.toArray⟩) := ⟨HX.out.cells 3 _ rfl, HX.out.cells 5 _ rfl⟩
              refine hK.out _ _ hS2 (fun hHeld => ?_)
              clear hK K
              try simp only [Act.put, List.setIfInBounds_toArray, List.set_cons_zero, List.set_cons_succ, List.getElem_toArray, List.getElem_cons_succ, List.getElem_cons_zero]
              refine wpAnyH_take (i := 13) (oi := _) (v := ?_) rfl (by kernel_rfl) (by kernel_rfl) (by kernel_rfl) (fun _ _ _ h => h) (Or.inl ⟨by rfl, ?_⟩) (by assumption) ?_
              rotate_left
              · intro W hSw; (try dsimp only at hSw); go_simp; try with_reducible rfl
              try simp only [Act.put, List.setIfInBounds_toArray, List.set_cons_zero, List.set_cons_succ, List.getElem_toArray, List.getElem_cons_succ, List.getElem_cons_zero]
              refine wpAnyH_ready (rs := [14]) (by kernel_rfl) (by simp) ?_
              refine AllReadyH.cons (o := _) rfl (fun K hK => ?_) AllReadyH.nil
              have hfr := HF.out.frozen i
              have hce := HF.out.cell hi18
              go_simp
              clear hfr hce
              have HX := Lib.hid (vr_set_far (g := g) (o := i) (u := .slice (some ⟨g2, 0, none⟩) ((logOf (l.take j) i).length + 1) cap) HX.out (by omega))
              generalize v2.setCell ⟨g, i, none⟩ (.slice (some ⟨g2, 0, none⟩) ((logOf (l.take j) i).length + 1) cap) = v3 at HX HR ⊢
              clear HF
              have hS3 : World.cell? v3 ⟨b3, 3, none⟩ = some (.int .i64 x.slot) ∧ World.cell? v3 ⟨b3, 5, none⟩ = some (.string ⟨x.text.toArray⟩) := ⟨HX.out.cells 3 _ rfl, HX.out.cells 5 _ rfl⟩
              refine hK.out _ _ hS3 (fun hHeld => ?_)
              clear hK K
              try simp only [Act.put, List.setIfInBounds_toArray, List.set_cons_zero, List.set_cons_succ, List.getElem_toArray, List.getElem_cons_succ, List.getElem_cons_zero]
              refine wpAnyH_done (by kernel_rfl) ?_ _
              refine NoPanic.normal ?_
              clear hS0 hS1 hS2 hS3
              go_wp2_with fail
              go_roundw
              case rel => exact ⟨j + 1, _, by go_num, by omega, HR.out⟩
              case measure => simp [intOf]; omega
            · go_simp
              have hs := below_new v0 (.cells #[.int .i64 x.slot, .string ⟨x.text.toArray⟩] 60)
              have HN := Lib.hid (World.news_of_block (cs := #[.int .i64 x.slot, .string ⟨x.text.toArray⟩]) (t := 60) (fr := (0, 0)) (heap_alloc_new v0 (.cells #[.int .i64 x.slot, .string ⟨x.text.toArray⟩] 60)))
              have HX := Lib.hid (HX.out.below hs)
              have HT := Lib.hid (Tab.below HT.out hs)
              clear hs
              generalize v0.alloc (.cells #[.int .i64 x.slot, .string ⟨x.text.toArray⟩] 60) = v1 at HX HT HN ⊢
              generalize v0.heap.size = b9 at HN ⊢
              have hS1 : World.cell? v1 ⟨b3, 3, none⟩ = some (.int .i64 x.slot) ∧ World.cell? v1 ⟨b3, 5, none⟩ = some (.string ⟨x.text.toArray⟩) := ⟨HX.out.cells 3 _ rfl, HX.out.cells 5 _ rfl⟩
              refine hK.out _ _ hS1 (fun hHeld => ?_)
              clear hK K
              try simp only [Act.put, List.setIfInBounds_toArray, List.set_cons_zero, List.set_cons_succ, List.getElem_toArray, List.getElem_cons_succ, List.getElem_cons_zero]
              refine wpAnyH_ready (rs := [5]) (by kernel_rfl) (by simp) ?_
              refine AllReadyH.cons (o := _) rfl (fun K hK => ?_) AllReadyH.nil
              have hat := HT.out.at hi18
              go_simp
              clear hat
              refine hK.out _ _ hS1 (fun hHeld => ?_)
              clear hK K
              try simp only [Act.put, List.setIfInBounds_toArray, List.set_cons_zero, List.set_cons_succ, List.getElem_toArray, List.getElem_cons_succ, List.getElem_cons_zero]
              refine wpAnyH_ready (rs := [12]) (by kernel_rfl) (by simp) ?_
              refine AllReadyH.cons (o := _) rfl (fun K hK => ?_) AllReadyH.nil
              have hgz : g + 1 ≤ v1.heap.size := HT.out.tab.lt
              have hlen := log_take_len l j i
              refine step_append_lies _ (by rfl) _ _ _ (by rfl) (g + 1) 60 i0 _ 2 24 Tryz.underlying58 HI.out HZ0.out HZ1.out HZ2.out rfl (by decide) _ _ _ (by rfl) (HT.out.rows i hi18) _ 1 1 #[.int .i64 x.slot, .string ⟨x.text.toArray⟩].toList (by rfl) (by rfl) HN.out (by simp [Value.oneCell']) (by omega) (by simp only [maxLen]; omega) (by omega) hgz _ rfl ?_
              intro g2 cap v2 hown hgrow hat hlt2
              have HR := Lib.hid (LogTab.more HT.out hlt (by rw [← HXe.out]; exact HPl.out) (w4 := v2) (by rw [← HXe.out]; exact hown) hgrow (by rcases hat with h9 | h9; exact .inl h9.symm; exact .inr (by rw [← h9]; rfl)))
              have HF := Lib.hid (HT.out.tab.of_block (w' := v2) (hgrow.block g HT.out.tab.lt (fun e1 => by have := ((HT.out.rows i hi18).lt g e1.symm).1; omega)))
              have HX := Lib.hid (HX.out.grownP hgrow (HFar.out i hi18))
              clear hown hgrow hat hlt2 HT
              have hS2 : World.cell? v2 ⟨b3, 3, none⟩ = some (.int .i64 x.slot) ∧ World.cell? v2 ⟨b3, 5, none⟩ = some (.string ⟨x.text.toArray⟩) := ⟨HX.out.cells 3 _ rfl, HX.out.cells 5 _ rfl⟩
              refine hK.out _ _ hS2 (fun hHeld => ?_)
              clear hK K
              try simp only [Act.put, List.setIfInBounds_toArray, List.set_cons_zero, List.set_cons_succ, List.getElem_toArray, List.getElem_cons_succ, List.getElem_cons_zero]
              refine wpAnyH_take (i := 13) (oi := _) (v := ?_) rfl (by kernel_rfl) (by kernel_rfl) (by kernel_rfl) (fun _ _ _ h => h) (Or.inl ⟨by rfl, ?_⟩) (by assumption) ?_
              rotate_left
              · intro W hSw; (try dsimp only at hSw); go_simp; try with_reducible rfl
              try simp only [Act.put, List.setIfInBounds_toArray, List.set_cons_zero, List.set_cons_succ, List.getElem_toArray, List.getElem_cons_succ, List.getElem_cons_zero]
              refine wpAnyH_ready (rs := [14]) (by kernel_rfl) (by simp) ?_
              refine AllReadyH.cons (o := _) rfl (fun K hK => ?_) AllReadyH.nil
              have hfr := HF.out.frozen i
              have hce := HF.out.cell hi18
              go_simp
              clear hfr hce
              have HX := Lib.hid (vr_set_far (g := g) (o := i) (u := .slice (some ⟨g2, 0, none⟩) ((logOf (l.take j) i).length + 1) cap) HX.out (by omega))
              generalize v2.setCell ⟨g, i, none⟩ (.slice (some ⟨g2, 0, none⟩) ((logOf (l.take j) i).length + 1) cap) = v3 at HX HR ⊢
              clear HF
              have hS3 : World.cell? v3 ⟨b3, 3, none⟩ = some (.int .i64 x.slot) ∧ World.cell? v3 ⟨b3, 5, none⟩ = some (.string ⟨x.text.toArray⟩) := ⟨HX.out.cells 3 _ rfl, HX.out.cells 5 _ rfl⟩
              refine hK.out _ _ hS3 (fun hHeld => ?_)
              clear hK K
              try simp only [Act.put, List.setIfInBounds_toArray, List.set_cons_zero, List.set_cons_succ, List.getElem_toArray, List.getElem_cons_succ, List.getElem_cons_zero]
              refine wpAnyH_done (by kernel_rfl) ?_ _
              refine NoPanic.normal ?_
              clear hS0 hS1 hS2 hS3
              go_wp2_with fail
              go_roundw
              case rel => exact ⟨j + 1, _, by go_num, by omega, HR.out⟩
              case measure => simp [intOf]; omega
          | false =>
            have HN : Hid (LogTab w l g (j + 1) vs w3) := Lib.hid (LogTab.skip HT.out hlt (by rw [← HXe.out]; exact place_cl0 h3 hs))
            go_wp2_with fail
            refine (trClient_any x.who w3).mono ?_
            rintro e w4 ⟨rfl, hw4⟩; subst hw4
            rw [hs]
            clear hs h4
            go_wp2_with fail
            go_roundw
            case rel => exact ⟨j + 1, vs, by go_num, by omega, HN.out⟩
            case measure => simp [intOf]; omega
        · have t3 : (x.kind == 3) = false := by simpa using h3
          have HN : Hid (LogTab w l g (j + 1) vs w3) := Lib.hid (LogTab.skip HT.out hlt (by rw [← HXe.out]; exact place_no h4 h3))
          go_wp2_with fail
          go_roundw
          case rel => exact ⟨j + 1, vs, by go_num, by omega, HN.out⟩
          case measure => simp [intOf]; omega
    · obtain rfl : j = l.length := by omega
      have HG := Lib.hid (Tab.grid HT.out)
      have HB := Lib.hid HT.out.low
      simp only [List.take_length] at HG
      go_wp2_with fail
      go_ret
      exact ⟨_, rfl, HG.out, HB.out⟩
end Go.Proofs.YtepbbaifpckcpaaGreatDoor
/- The contract of the reference's Logs. -/
namespace Go.Proofs.YtepbbaifpckcpaaGreatDoor
open Go.RowKit

set_option maxRecDepth 100000 in
set_option maxHeartbeats 8000000 in
theorem refLogs_any (A : Option Addr) (c : Nat) (l : List Pt) (w : World) (hp : PtsIn w A l) (hn : l.length ≤ 1099511627776) :
    Calls Tryz.prog 28 #[.slice A l.length c] w (RetLogs (logOf l) w) := by
  have HP := Lib.hid hp
  clear hp
  obtain ⟨i0, hi, hz0, hz1, hz2⟩ := info_parts infoSlr
  have HI := Lib.hid hi
  have HZ0 := Lib.hid hz0
  have HZ1 := Lib.hid hz1
  have HZ2 := Lib.hid hz2
  clear hi hz0 hz1 hz2
  have hmk := mkLogs w
  have HT0 : Hid (LogTab w l w.heap.size 0 (fun _ => .slice none 0 0) (w.alloc (.cells (madeCells #[.slice none 0 0] 18) 58))) := Lib.hid (Tab.rename (Tab.new (Below.refl _ _) rfl) (fun _ _ => rfl))
  go_enter Tryz.func28, Tryz.ntmps28
  go_upto_region 2 with fail
  clear hmk
  generalize w.alloc (.cells (madeCells #[.slice none 0 0] 18) 58) = w1 at HT0 ⊢
  generalize hg0 : w.heap.size = g at HT0 ⊢
  have hg1 : w.heap.size ≤ g := Nat.le_of_eq hg0
  clear hg0
  go_wp2_with fail
  go_loopw [4] (fun i wr => ∃ (j : Nat) (vs : Nat → Value), i = .int .i64 j ∧ j ≤ l.length ∧ LogTab w l g j vs wr) (fun i _ => l.length - (intOf i).toNat)
  case atStart => exact ⟨0, _, rfl, by omega, HT0.out⟩
  case round =>
    obtain ⟨j, vs, rfl, hj, hst⟩ := hrel
    have HT : Hid (Tab w 58 60 2 slC 18 g (fun i => logOf (l.take j) i) vs wr) := Lib.hid hst
    clear hst
    by_cases hlt : j < l.length
    · have i0' : (0 : Int) ≤ (j : Int) := by omega
      have i1 : (j : Int) < (l.length : Int) := by omega
      obtain ⟨b, off, hA, hg, hcc⟩ := HP.out.at hlt
      subst hA
      obtain ⟨x, hx⟩ : ∃ x, x = l[j] := ⟨_, rfl⟩
      have HRg := Lib.hid (hcc wr HT.out.low)
      rw [← hx] at HRg
      have HXe := Lib.hid hx
      clear hcc hx
      have HX0 := Lib.hid (Vr.new wr (ptC pt0) 40)
      have HX := Lib.hid (HX0.out.sets (ptC x) rfl)
      have HBr := Lib.hid (below_gr (below_new wr (.cells (ptC pt0).toArray 40)) (grown_vs (b := wr.heap.size) (ptC x)) (Nat.le_refl _))
      have hgb : g < wr.heap.size := HT.out.tab.lt
      have HFar : Hid (∀ i, i < 18 → (vs i).ownBlock ≠ some wr.heap.size) := Lib.hid (fun i h e1 => absurd ((HT.out.rows i h).lt _ e1).2 (Nat.lt_irrefl _))
      go_upto_region 6 with (first
        | (refine wpList_load_mid rfl 40 _ rfl b (off + j * 28) rfl (ptC x) _ HRg.out Tryz.underlying40 rfl (infoPt x) ?_)
        | (refine wpList_store_mid rfl 40 _ _ rfl wr.heap.size 0 (ptC x).toArray rfl rfl ?_ (infoPt x) (ptC_one x) ?_; · exact HX0.out.there rfl))
      try simp only [List.toList_toArray]
      clear HX0 HRg
      change Code.wp _ _ _ _ ((wr.alloc (.cells (ptC pt0).toArray 40)).setCells wr.heap.size 0 (ptC x))
      generalize (wr.alloc (.cells (ptC pt0).toArray 40)).setCells wr.heap.size 0 (ptC x) = w3 at HX HBr ⊢
      generalize wr.heap.size = b3 at HX hgb HFar ⊢
      have HT := Lib.hid (Tab.below HT.out HBr.out)
      have HX0c := Lib.hid HX.out
      have HY := Lib.hid (Vr.new w3 (slC (x.slot, x.text)) 60)
      have HX := Lib.hid (HX.out.below (below_new w3 (.cells (slC (x.slot, x.text)).toArray 60)))
      have hg6 : g < w3.heap.size := HT.out.tab.lt
      have HFar2 : Hid (∀ i, i < 18 → (vs i).ownBlock ≠ some w3.heap.size) := Lib.hid (fun i h e1 => absurd ((HT.out.rows i h).lt _ e1).2 (Nat.lt_irrefl _))
      have HT := Lib.hid (Tab.below HT.out (below_new w3 (.cells (slC (x.slot, x.text)).toArray 60)))
      have d3 := HX0c.out.cells 3 _ rfl
      have d5 := HX0c.out.cells 5 _ rfl
      go_upto_region 7 with fail
      change Code.wp _ _ _ _ (w3.alloc (.cells (slC (x.slot, x.text)).toArray 60))
      clear d3 d5 HX0c
      generalize w3.alloc (.cells (slC (x.slot, x.text)).toArray 60) = w5 at HX HY HT ⊢
      generalize w3.heap.size = b6 at HY hg6 HFar2 ⊢
      have c1 := HX.out.cells 1 _ rfl
      have c2 := HX.out.cells 2 _ rfl
      have l3 := HX.out.lt
      by_cases h4 : x.kind = 4
      · have t4 : (x.kind == 4) = true := by simpa using h4
        have t3 : (x.kind == 3) = false := by simp; omega
        cases hs : isSv x.who with
        | true =>
          obtain ⟨i, hw, hi12, hpl⟩ := place_sv h4 hs
          have hi18 : i < 18 := by omega
          have HPl := Lib.hid hpl
          have j0 : (0 : Int) ≤ (i : Int) := by omega
          have j1 : (i : Int) < 18 := by omega
          have HX2 : Hid (∀ W, Vr W b3 (ptC x) → W.cell? ⟨b3, 2, none⟩ = some (.int .i64 (i : Int))) := Lib.hid (fun W h => by rw [← hw]; exact h.cells 2 _ rfl)
          rw [hw] at c2
          rw [hw] at hs
          have HSv := Lib.hid (refServer_any (i : Int) w5)
          rw [hs] at HSv
          clear hs hpl hi12 h4
          go_wp2_with fail
          refine HSv.out.mono ?_
          rintro e w4 ⟨rfl, hw4⟩; subst hw4
          clear HSv
          go_upto_region 8 with fail
          clear c1 c2 l3
          refine wp_region_noPanic ?_
          have HX := Lib.hid (HX.out.below (Below.refl _ _).drew)
          have HY := Lib.hid (HY.out.below (Below.refl _ _).drew)
          have HT := Lib.hid (Tab.below HT.out (Below.refl _ _).drew)
          generalize hv : w4.drew = v0 at HX HY HT
          have hS0 : World.cell? v0 ⟨b3, 2, none⟩ = some (.int .i64 (i : Int)) ∧ World.cell? v0 ⟨b6, 0, none⟩ = some (.int .i64 x.slot) ∧ World.cell? v0 ⟨b6, 1, none⟩ = some (.string ⟨x.text.toArray⟩) := ⟨HX2.out _ HX.out, HY.out.cells 0 _ rfl, HY.out.cells 1 _ rfl⟩
          refine wp_region_held_drew (S := fun W => World.cell? W ⟨b3, 2, none⟩ = some (.int .i64 (i : Int)) ∧ World.cell? W ⟨b6, 0, none⟩ = some (.int .i64 x.slot) ∧ World.cell? W ⟨b6, 1, none⟩ = some (.string ⟨x.text.toArray⟩)) (by kernel_rfl) (by rw [hv]; exact hS0) (fun hHeld => ?_)
          rw [hv] at hHeld ⊢
          clear hv
          refine wpAnyH_take (i := 0) (oi := _) (v := ?_) rfl (by kernel_rfl) (by kernel_rfl) (by kernel_rfl) (fun _ _ _ h => h) (Or.inl ⟨by rfl, ?_⟩) (by assumption) ?_
          rotate_left
          · intro W hSw; (try dsimp only at hSw); go_simp; try with_reducible rfl
          try simp only [Act.put, List.setIfInBounds_toArray, List.set_cons_zero, List.set_cons_succ, List.getElem_toArray, List.getElem_cons_zero]
          refine wpAnyH_take (i := 1) (oi := _) (v := ?_) rfl (by kernel_rfl) (by kernel_rfl) (by kernel_rfl) (fun _ _ _ h => h) (Or.inl ⟨by rfl, ?_⟩) (by assumption) ?_
          rotate_left
          · intro W hSw; (try dsimp only at hSw); go_simp; try with_reducible rfl
          try simp only [Act.put, List.setIfInBounds_toArray, List.set_cons_zero, List.set_cons_succ, List.getElem_toArray, List.getElem_cons_succ, List.getElem_cons_zero]
          refine wpAnyH_take (i := 2) (oi := _) (v := ?_) rfl (by kernel_rfl) (by kernel_rfl) (by kernel_rfl) (fun _ _ _ h => h) (Or.inl ⟨by rfl, ?_⟩) (by assumption) ?_
          rotate_left
          · intro W hSw; (try dsimp only at hSw); go_simp; try with_reducible rfl
          try simp only [Act.put, List.setIfInBounds_toArray, List.set_cons_zero, List.set_cons_succ, List.getElem_toArray, List.getElem_cons_succ, List.getElem_cons_zero]
          refine wpAnyH_take (i := 3) (oi := _) (v := ?_) rfl (by kernel_rfl) (by kernel_rfl) (by kernel_rfl) (fun _ _ _ h => h) (Or.inl ⟨by rfl, ?_⟩) (by assumption) ?_
          rotate_left
          · intro W hSw; (try dsimp only at hSw); go_simp; try with_reducible rfl
          try simp only [Act.put, List.setIfInBounds_toArray, List.set_cons_zero, List.set_cons_succ, List.getElem_toArray, List.getElem_cons_succ, List.getElem_cons_zero]
          refine wpAnyH_take (i := 4) (oi := _) (v := ?_) rfl (by kernel_rfl) (by kernel_rfl) (by kernel_rfl) (fun _ _ _ h => h) (Or.inl ⟨by rfl, ?_⟩) (by assumption) ?_
          rotate_left
          · intro W hSw; (try dsimp only at hSw); go_simp; try with_reducible rfl
          try simp only [Act.put, List.setIfInBounds_toArray, List.set_cons_zero, List.set_cons_succ, List.getElem_toArray, List.getElem_cons_succ, List.getElem_cons_zero]
          refine wpAnyH_take (i := 5) (oi := _) (v := ?_) rfl (by kernel_rfl) (by kernel_rfl) (by kernel_rfl) (fun _ _ _ h => h) (Or.inl ⟨by rfl, ?_⟩) (by assumption) ?_
          rotate_left
          · intro W hSw; (try dsimp only at hSw); go_simp; try with_reducible rfl
          try simp only [Act.put, List.setIfInBounds_toArray, List.set_cons_zero, List.set_cons_succ, List.getElem_toArray, List.getElem_cons_succ, List.getElem_cons_zero]
          refine wpAnyH_take (i := 6) (oi := _) (v := ?_) rfl (by kernel_rfl) (by kernel_rfl) (by kernel_rfl) (fun _ _ _ h => h) (Or.inl ⟨by rfl, ?_⟩) (by assumption) ?_
          rotate_left
          · intro W hSw; (try dsimp only at hSw); go_simp; try with_reducible rfl
          try simp only [Act.put, List.setIfInBounds_toArray, List.set_cons_zero, List.set_cons_succ, List.getElem_toArray, List.getElem_cons_succ, List.getElem_cons_zero]
          refine wpAnyH_take (i := 8) (oi := _) (v := ?_) rfl (by kernel_rfl) (by kernel_rfl) (by kernel_rfl) (fun _ _ _ h => h) (Or.inl ⟨by rfl, ?_⟩) (by assumption) ?_
          rotate_left
          · intro W hSw; (try dsimp only at hSw); go_simp; try with_reducible rfl
          try simp only [Act.put, List.setIfInBounds_toArray, List.set_cons_zero, List.set_cons_succ, List.getElem_toArray, List.getElem_cons_succ, List.getElem_cons_zero]
          refine wpAnyH_ready (rs := [7, 9]) (by kernel_rfl) (by simp) ?_
          refine AllReadyH.cons (o := _) rfl (fun K hK => ?_) (AllReadyH.cons (o := _) rfl (fun K hK => ?_) AllReadyH.nil)
          · have hat := HT.out.at hi18
            go_simp
            clear hat
            refine hK.out _ _ hS0 (fun hHeld => ?_)
            clear hK K
            try simp only [Act.put, List.setIfInBounds_toArray, List.set_cons_zero, List.set_cons_succ, List.getElem_toArray, List.getElem_cons_succ, List.getElem_cons_zero]
            refine wpAnyH_ready (rs := [9]) (by kernel_rfl) (by simp) ?_
            refine AllReadyH.cons (o := _) rfl (fun K hK => ?_) AllReadyH.nil
            go_simp
            have hs := below_new v0 (.cells #[.int .i64 x.slot, .string ⟨x.text.toArray⟩] 60)
            have HN := Lib.hid (World.news_of_block (cs := #[.int .i64 x.slot, .string ⟨x.text.toArray⟩]) (t := 60) (fr := (0, 0)) (heap_alloc_new v0 (.cells #[.int .i64 x.slot, .string ⟨x.text.toArray⟩] 60)))
            have HX := Lib.hid (HX.out.below hs)
            have HY := Lib.hid (HY.out.below hs)
            have HT := Lib.hid (Tab.below HT.out hs)
            clear hs
            generalize v0.alloc (.cells #[.int .i64 x.slot, .string ⟨x.text.toArray⟩] 60) = v1 at HX HY HT HN ⊢
            generalize v0.heap.size = b9 at HN ⊢
            have hS1 : World.cell? v1 ⟨b3, 2, none⟩ = some (.int .i64 (i : Int)) ∧ World.cell? v1 ⟨b6, 0, none⟩ = some (.int .i64 x.slot) ∧ World.cell? v1 ⟨b6, 1, none⟩ = some (.string ⟨x.text.toArray⟩) := ⟨HX2.out _ HX.out, HY.out.cells 0 _ rfl, HY.out.cells 1 _ rfl⟩
            refine hK.out _ _ hS1 (fun hHeld => ?_)
            clear hK K
            try simp only [Act.put, List.setIfInBounds_toArray, List.set_cons_zero, List.set_cons_succ, List.getElem_toArray, List.getElem_cons_succ, List.getElem_cons_zero]
            refine wpAnyH_ready (rs := [10]) (by kernel_rfl) (by simp) ?_
            refine AllReadyH.cons (o := _) rfl (fun K hK => ?_) AllReadyH.nil
            have hgz : g + 1 ≤ v1.heap.size := HT.out.tab.lt
            have hlen := log_take_len l j i
            refine step_append_lies _ (by rfl) _ _ _ (by rfl) (g + 1) 60 i0 _ 2 24 Tryz.underlying58 HI.out HZ0.out HZ1.out HZ2.out rfl (by decide) _ _ _ (by rfl) (HT.out.rows i hi18) _ 1 1 #[.int .i64 x.slot, .string ⟨x.text.toArray⟩].toList (by rfl) (by rfl) HN.out (by simp [Value.oneCell']) (by omega) (by simp only [maxLen]; omega) (by omega) hgz _ rfl ?_
            intro g2 cap v2 hown hgrow hat hlt2
            have HR := Lib.hid (LogTab.more HT.out hlt (by rw [← HXe.out]; exact HPl.out) (w4 := v2) (by rw [← HXe.out]; exact hown) hgrow (by rcases hat with h9 | h9; exact .inl h9.symm; exact .inr (by rw [← h9]; rfl)))
            have HF := Lib.hid (HT.out.tab.of_block (w' := v2) (hgrow.block g HT.out.tab.lt (fun e1 => by have := ((HT.out.rows i hi18).lt g e1.symm).1; omega)))
            have HX := Lib.hid (HX.out.grownP hgrow (HFar.out i hi18))
            have HY := Lib.hid (HY.out.grownP hgrow (HFar2.out i hi18))
            clear hown hgrow hat hlt2 HT
            have hS2 : World.cell? v2 ⟨b3, 2, none⟩ = some (.int .i64 (i : Int)) ∧ World.cell? v2 ⟨b6, 0, none⟩ = some (.int .i64 x.slot) ∧ World.cell? v2 ⟨b6, 1, none⟩ = some (.string ⟨x.text.toArray⟩) := ⟨HX2.out _ HX.out, HY.out.cells 0 _ rfl, HY.out.cells 1 _ rfl⟩
            refine hK.out _ _ hS2 (fun hHeld => ?_)
            clear hK K
            try simp only [Act.put, List.setIfInBounds_toArray, List.set_cons_zero, List.set_cons_succ, List.getElem_toArray, List.getElem_cons_succ, List.getElem_cons_zero]
            refine wpAnyH_take (i := 11) (oi := _) (v := ?_) rfl (by kernel_rfl) (by kernel_rfl) (by kernel_rfl) (fun _ _ _ h => h) (Or.inl ⟨by rfl, ?_⟩) (by assumption) ?_
            rotate_left
            · intro W hSw; (try dsimp only at hSw); go_simp; try with_reducible rfl
            try simp only [Act.put, List.setIfInBounds_toArray, List.set_cons_zero, List.set_cons_succ, List.getElem_toArray, List.getElem_cons_succ, List.getElem_cons_zero]
            refine wpAnyH_ready (rs := [12]) (by kernel_rfl) (by simp) ?_
            refine AllReadyH.cons (o := _) rfl (fun K hK => ?_) AllReadyH.nil
            have hfr := HF.out.frozen i
            have hce := HF.out.cell hi18
            go_simp
            clear hfr hce
            have HX := Lib.hid (vr_set_far (g := g) (o := i) (u := .slice (some ⟨g2, 0, none⟩) ((logOf (l.take j) i).length + 1) cap) HX.out (by omega))
            have HY := Lib.hid (vr_set_far (g := g) (o := i) (u := .slice (some ⟨g2, 0, none⟩) ((logOf (l.take j) i).length + 1) cap) HY.out (by omega))
            generalize v2.setCell ⟨g, i, none⟩ (.slice (some ⟨g2, 0, none⟩) ((logOf (l.take j) i).length + 1) cap) = v3 at HX HY HR ⊢
            clear HF
            have hS3 : World.cell? v3 ⟨b3, 2, none⟩ = some (.int .i64 (i : Int)) ∧ World.cell? v3 ⟨b6, 0, none⟩ = some (.int .i64 x.slot) ∧ World.cell? v3 ⟨b6, 1, none⟩ = some (.string ⟨x.text.toArray⟩) := ⟨HX2.out _ HX.out, HY.out.cells 0 _ rfl, HY.out.cells 1 _ rfl⟩
            refine hK.out _ _ hS3 (fun hHeld => ?_)
            clear hK K
            try simp only [Act.put, List.setIfInBounds_toArray, List.set_cons_zero, List.set_cons_succ, List.getElem_toArray, List.getElem_cons_succ, List.getElem_cons_zero]
            refine wpAnyH_done (by kernel_rfl) ?_ _
            refine NoPanic.normal ?_
            clear hS0 hS1 hS2 hS3
            have c1 := HX.out.cells 1 _ rfl
            go_wp2_with fail
            go_roundw
            case rel => exact ⟨j + 1, _, by go_num, by omega, HR.out⟩
            case measure => simp [intOf]; omega
          · go_simp
            have hs := below_new v0 (.cells #[.int .i64 x.slot, .string ⟨x.text.toArray⟩] 60)
            have HN := Lib.hid (World.news_of_block (cs := #[.int .i64 x.slot, .string ⟨x.text.toArray⟩]) (t := 60) (fr := (0, 0)) (heap_alloc_new v0 (.cells #[.int .i64 x.slot, .string ⟨x.text.toArray⟩] 60)))
            have HX := Lib.hid (HX.out.below hs)
            have HY := Lib.hid (HY.out.below hs)
            have HT := Lib.hid (Tab.below HT.out hs)
            clear hs
            generalize v0.alloc (.cells #[.int .i64 x.slot, .string ⟨x.text.toArray⟩] 60) = v1 at HX HY HT HN ⊢
            generalize v0.heap.size = b9 at HN ⊢
            have hS1 : World.cell? v1 ⟨b3, 2, none⟩ = some (.int .i64 (i : Int)) ∧ World.cell? v1 ⟨b6, 0, none⟩ = some (.int .i64 x.slot) ∧ World.cell? v1 ⟨b6, 1, none⟩ = some (.string ⟨x.text.toArray⟩) := ⟨HX2.out _ HX.out, HY.out.cells 0 _ rfl, HY.out.cells 1 _ rfl⟩
            refine hK.out _ _ hS1 (fun hHeld => ?_)
            clear hK K
            try simp only [Act.put, List.setIfInBounds_toArray, List.set_cons_zero, List.set_cons_succ, List.getElem_toArray, List.getElem_cons_succ, List.getElem_cons_zero]
            refine wpAnyH_ready (rs := [7]) (by kernel_rfl) (by simp) ?_
            refine AllReadyH.cons (o := _) rfl (fun K hK => ?_) AllReadyH.nil
            have hat := HT.out.at hi18
            go_simp
            clear hat
            refine hK.out _ _ hS1 (fun hHeld => ?_)
            clear hK K
            try simp only [Act.put, List.setIfInBounds_toArray, List.set_cons_zero, List.set_cons_succ, List.getElem_toArray, List.getElem_cons_succ, List.getElem_cons_zero]
            refine wpAnyH_ready (rs := [10]) (by kernel_rfl) (by simp) ?_
            refine AllReadyH.cons (o := _) rfl (fun K hK => ?_) AllReadyH.nil
            have hgz : g + 1 ≤ v1.heap.size := HT.out.tab.lt
            have hlen := log_take_len l j i
            refine step_append_lies _ (by rfl) _ _ _ (by rfl) (g + 1) 60 i0 _ 2 24 Tryz.underlying58 HI.out HZ0.out HZ1.out HZ2.out rfl (by decide) _ _ _ (by rfl) (HT.out.rows i hi18) _ 1 1 #[.int .i64 x.slot, .string ⟨x.text.toArray⟩].toList (by rfl) (by rfl) HN.out (by simp [Value.oneCell']) (by omega) (by simp only [maxLen]; omega) (by omega) hgz _ rfl ?_
            intro g2 cap v2 hown hgrow hat hlt2
            have HR := Lib.hid (LogTab.more HT.out hlt (by rw [← HXe.out]; exact HPl.out) (w4 := v2) (by rw [← HXe.out]; exact hown) hgrow (by rcases hat with h9 | h9; exact .inl h9.symm; exact .inr (by rw [← h9]; rfl)))
            have HF := Lib.hid (HT.out.tab.of_block (w' := v2) (hgrow.block g HT.out.tab.lt (fun e1 => by have := ((HT.out.rows i hi18).lt g e1.symm).1; omega)))
            have HX := Lib.hid (HX.out.grownP hgrow (HFar.out i hi18))
            have HY := Lib.hid (HY.out.grownP hgrow (HFar2.out i hi18))
            clear hown hgrow hat hlt2 HT
            have hS2 : World.cell? v2 ⟨b3, 2, none⟩ = some (.int .i64 (i : Int)) ∧ World.cell? v2 ⟨b6, 0, none⟩ = some (.int .i64 x.slot) ∧ World.cell? v2 ⟨b6, 1, none⟩ = some (.string ⟨x.text.toArray⟩) := ⟨HX2.out _ HX.out, HY.out.cells 0 _ rfl, HY.out.cells 1 _ rfl⟩
            refine hK.out _ _ hS2 (fun hHeld => ?_)
            clear hK K
            try simp only [Act.put, List.setIfInBounds_toArray, List.set_cons_zero, List.set_cons_succ, List.getElem_toArray, List.getElem_cons_succ, List.getElem_cons_zero]
            refine wpAnyH_take (i := 11) (oi := _) (v := ?_) rfl (by kernel_rfl) (by kernel_rfl) (by kernel_rfl) (fun _ _ _ h => h) (Or.inl ⟨by rfl, ?_⟩) (by assumption) ?_
            rotate_left
            · intro W hSw; (try dsimp only at hSw); go_simp; try with_reducible rfl
            try simp only [Act.put, List.setIfInBounds_toArray, List.set_cons_zero, List.set_cons_succ, List.getElem_toArray, List.getElem_cons_succ, List.getElem_cons_zero]
            refine wpAnyH_ready (rs := [12]) (by kernel_rfl) (by simp) ?_
            refine AllReadyH.cons (o := _) rfl (fun K hK => ?_) AllReadyH.nil
            have hfr := HF.out.frozen i
            have hce := HF.out.cell hi18
            go_simp
            clear hfr hce
            have HX := Lib.hid (vr_set_far (g := g) (o := i) (u := .slice (some ⟨g2, 0, none⟩) ((logOf (l.take j) i).length + 1) cap) HX.out (by omega))
            have HY := Lib.hid (vr_set_far (g := g) (o := i) (u := .slice (some ⟨g2, 0, none⟩) ((logOf (l.take j) i).length + 1) cap) HY.out (by omega))
            generalize v2.setCell ⟨g, i, none⟩ (.slice (some ⟨g2, 0, none⟩) ((logOf (l.take j) i).length + 1) cap) = v3 at HX HY HR ⊢
            clear HF
            have hS3 : World.cell? v3 ⟨b3, 2, none⟩ = some (.int .i64 (i : Int)) ∧ World.cell? v3 ⟨b6, 0, none⟩ = some (.int .i64 x.slot) ∧ World.cell? v3 ⟨b6, 1, none⟩ = some (.string ⟨x.text.toArray⟩) := ⟨HX2.out _ HX.out, HY.out.cells 0 _ rfl, HY.out.cells 1 _ rfl⟩
            refine hK.out _ _ hS3 (fun hHeld => ?_)
            clear hK K
            try simp only [Act.put, List.setIfInBounds_toArray, List.set_cons_zero, List.set_cons_succ, List.getElem_toArray, List.getElem_cons_succ, List.getElem_cons_zero]
            refine wpAnyH_done (by kernel_rfl) ?_ _
            refine NoPanic.normal ?_
            clear hS0 hS1 hS2 hS3
            have c1 := HX.out.cells 1 _ rfl
            go_wp2_with fail
            go_roundw
            case rel => exact ⟨j + 1, _, by go_num, by omega, HR.out⟩
            case measure => simp [intOf]; omega
        | false =>
          have HN : Hid (LogTab w l g (j + 1) vs w5) := Lib.hid (LogTab.skip HT.out hlt (by rw [← HXe.out]; exact place_sv0 h4 hs))
          go_wp2_with fail
          refine (refServer_any x.who w5).mono ?_
          rintro e w4 ⟨rfl, hw4⟩; subst hw4
          rw [hs]
          clear hs h4
          go_wp2_with fail
          go_roundw
          case rel => exact ⟨j + 1, vs, by go_num, by omega, HN.out⟩
          case measure => simp [intOf]; omega
      · have t4 : (x.kind == 4) = false := by simpa using h4
        by_cases h3 : x.kind = 3
        · have t3 : (x.kind == 3) = true := by simpa using h3
          cases hs : isCl x.who with
          | true =>
            obtain ⟨p, i, hw, hip, hp6, hpl⟩ := place_cl h3 hs
            have hi18 : i < 18 := by omega
            have HPl := Lib.hid hpl
            have j0 : (0 : Int) ≤ (i : Int) := by omega
            have j1 : (i : Int) < 18 := by omega
            have e8 : IntKind.i64.wrap (12 + (p : Int)) = (i : Int) := by rw [show (12 : Int) + (p : Int) = (i : Int) from by omega]; exact IntWalk.i64_in _ (by omega)
            have k0 : (0 : Int) ≤ 12 + (p : Int) := by omega
            have k1 : 12 + (p : Int) < 18 := by omega
            have e9 : (12 + (p : Int)).toNat = i := by omega
            clear hip
            have HX2 : Hid (∀ W, Vr W b3 (ptC x) → W.cell? ⟨b3, 2, none⟩ = some (.int .i64 (p : Int))) := Lib.hid (fun W h => by rw [← hw]; exact h.cells 2 _ rfl)
            rw [hw] at c2
            rw [hw] at hs
            have HSv := Lib.hid (refClient_any (p : Int) w5)
            rw [hs] at HSv
            clear hs hpl hp6 h3 h4
            go_wp2_with fail
            refine HSv.out.mono ?_
            rintro e w4 ⟨rfl, hw4⟩; subst hw4
            clear HSv
            go_upto_region 10 with fail
            clear c1 c2 l3
            refine wp_region_noPanic ?_
            have HX := Lib.hid (HX.out.below (Below.refl _ _).drew)
            have HY := Lib.hid (HY.out.below (Below.refl _ _).drew)
            have HT := Lib.hid (Tab.below HT.out (Below.refl _ _).drew)
            generalize hv : w4.drew = v0 at HX HY HT
            have hS0 : World.cell? v0 ⟨b3, 2, none⟩ = some (.int .i64 (p : Int)) ∧ World.cell? v0 ⟨b6, 0, none⟩ = some (.int .i64 x.slot) ∧ World.cell? v0 ⟨b6, 1, none⟩ = some (.string ⟨x.text.toArray⟩) := ⟨HX2.out _ HX.out, HY.out.cells 0 _ rfl, HY.out.cells 1 _ rfl⟩
            refine wp_region_held_drew (S := fun W => World.cell? W ⟨b3, 2, none⟩ = some (.int .i64 (p : Int)) ∧ World.cell? W ⟨b6, 0, none⟩ = some (.int .i64 x.slot) ∧ World.cell? W ⟨b6, 1, none⟩ = some (.string ⟨x.text.toArray⟩)) (by kernel_rfl) (by rw [hv]; exact hS0) (fun hHeld => ?_)
            rw [hv] at hHeld ⊢
            clear hv
            refine wpAnyH_take (i := 0) (oi := _) (v := ?_) rfl (by kernel_rfl) (by kernel_rfl) (by kernel_rfl) (fun _ _ _ h => h) (Or.inl ⟨by rfl, ?_⟩) (by assumption) ?_
            rotate_left
            · intro W hSw; (try dsimp only at hSw); go_simp; try with_reducible rfl
            try simp only [Act.put, List.setIfInBounds_toArray, List.set_cons_zero, List.set_cons_succ, List.getElem_toArray, List.getElem_cons_zero]
            refine wpAnyH_take (i := 1) (oi := _) (v := ?_) rfl (by kernel_rfl) (by kernel_rfl) (by kernel_rfl) (fun _ _ _ h => h) (Or.inl ⟨by rfl, ?_⟩) (by assumption) ?_
            rotate_left
            · intro W hSw; (try dsimp only at hSw); go_simp; try with_reducible rfl
            try simp only [Act.put, List.setIfInBounds_toArray, List.set_cons_zero, List.set_cons_succ, List.getElem_toArray, List.getElem_cons_succ, List.getElem_cons_zero]
            refine wpAnyH_take (i := 2) (oi := _) (v := ?_) rfl (by kernel_rfl) (by kernel_rfl) (by kernel_rfl) (fun _ _ _ h => h) (Or.inl ⟨by rfl, ?_⟩) (by assumption) ?_
            rotate_left
            · intro W hSw; (try dsimp only at hSw); go_simp; try with_reducible rfl
            try simp only [Act.put, List.setIfInBounds_toArray, List.set_cons_zero, List.set_cons_succ, List.getElem_toArray, List.getElem_cons_succ, List.getElem_cons_zero]
            refine wpAnyH_take (i := 3) (oi := _) (v := ?_) rfl (by kernel_rfl) (by kernel_rfl) (by kernel_rfl) (fun _ _ _ h => h) (Or.inl ⟨by rfl, ?_⟩) (by assumption) ?_
            rotate_left
            · intro W hSw; (try dsimp only at hSw); go_simp; try with_reducible rfl
            try simp only [Act.put, List.setIfInBounds_toArray, List.set_cons_zero, List.set_cons_succ, List.getElem_toArray, List.getElem_cons_succ, List.getElem_cons_zero]
            refine wpAnyH_take (i := 4) (oi := _) (v := ?_) rfl (by kernel_rfl) (by kernel_rfl) (by kernel_rfl) (fun _ _ _ h => h) (Or.inl ⟨by rfl, ?_⟩) (by assumption) ?_
            rotate_left
            · intro W hSw; (try dsimp only at hSw); go_simp; try with_reducible rfl
            try simp only [Act.put, List.setIfInBounds_toArray, List.set_cons_zero, List.set_cons_succ, List.getElem_toArray, List.getElem_cons_succ, List.getElem_cons_zero]
            refine wpAnyH_take (i := 5) (oi := _) (v := ?_) rfl (by kernel_rfl) (by kernel_rfl) (by kernel_rfl) (fun _ _ _ h => h) (Or.inl ⟨by rfl, ?_⟩) (by assumption) ?_
            rotate_left
            · intro W hSw; (try dsimp only at hSw); go_simp; try with_reducible rfl
            try simp only [Act.put, List.setIfInBounds_toArray, List.set_cons_zero, List.set_cons_succ, List.getElem_toArray, List.getElem_cons_succ, List.getElem_cons_zero]
            refine wpAnyH_take (i := 6) (oi := _) (v := ?_) rfl (by kernel_rfl) (by kernel_rfl) (by kernel_rfl) (fun _ _ _ h => h) (Or.inl ⟨by rfl, ?_⟩) (by assumption) ?_
            rotate_left
            · intro W hSw; (try dsimp only at hSw); go_simp; try with_reducible rfl
            try simp only [Act.put, List.setIfInBounds_toArray, List.set_cons_zero, List.set_cons_succ, List.getElem_toArray, List.getElem_cons_succ, List.getElem_cons_zero]
            refine wpAnyH_take (i := 7) (oi := _) (v := ?_) rfl (by kernel_rfl) (by kernel_rfl) (by kernel_rfl) (fun _ _ _ h => h) (Or.inl ⟨by rfl, ?_⟩) (by assumption) ?_
            rotate_left
            · intro W hSw; (try dsimp only at hSw); go_simp; try with_reducible rfl
            try simp only [Act.put, List.setIfInBounds_toArray, List.set_cons_zero, List.set_cons_succ, List.getElem_toArray, List.getElem_cons_succ, List.getElem_cons_zero]
            refine wpAnyH_take (i := 8) (oi := _) (v := ?_) rfl (by kernel_rfl) (by kernel_rfl) (by kernel_rfl) (fun _ _ _ h => h) (Or.inl ⟨by rfl, ?_⟩) (by assumption) ?_
            rotate_left
            · intro W hSw; (try dsimp only at hSw); go_simp; try with_reducible rfl
            try simp only [Act.put, List.setIfInBounds_toArray, List.set_cons_zero, List.set_cons_succ, List.getElem_toArray, List.getElem_cons_succ, List.getElem_cons_zero]
            refine wpAnyH_take (i := 10) (oi := _) (v := ?_) rfl (by kernel_rfl) (by kernel_rfl) (by kernel_rfl) (fun _ _ _ h => h) (Or.inl ⟨by rfl, ?_⟩) (by assumption) ?_
            rotate_left
            · intro W hSw; (try dsimp only at hSw); go_simp; try with_reducible rfl
            try simp only [Act.put, List.setIfInBounds_toArray, List.set_cons_zero, List.set_cons_succ, List.getElem_toArray, List.getElem_cons_succ, List.getElem_cons_zero]
            refine wpAnyH_ready (rs := [9, 11]) (by kernel_rfl) (by simp) ?_
            refine AllReadyH.cons (o := _) rfl (fun K hK => ?_) (AllReadyH.cons (o := _) rfl (fun K hK => ?_) AllReadyH.nil)
            · have hat := HT.out.at hi18
              go_simp
              clear hat
              refine hK.out _ _ hS0 (fun hHeld => ?_)
              clear hK K
              try simp only [Act.put, List.setIfInBounds_toArray, List.set_cons_zero, List.set_cons_succ, List.getElem_toArray, List.getElem_cons_succ, List.getElem_cons_zero]
              refine wpAnyH_ready (rs := [11]) (by kernel_rfl) (by simp) ?_
              refine AllReadyH.cons (o := _) rfl (fun K hK => ?_) AllReadyH.nil
              go_simp
              have hs := below_new v0 (.cells #[.int .i64 x.slot, .string ⟨x.text.toArray⟩] 60)
              have HN := Lib.hid (World.news_of_block (cs := #[.int .i64 x.slot, .string ⟨x.text.toArray⟩]) (t := 60) (fr := (0, 0)) (heap_alloc_new v0 (.cells #[.int .i64 x.slot, .string ⟨x.text.toArray⟩] 60)))
              have HX := Lib.hid (HX.out.below hs)
              have HY := Lib.hid (HY.out.below hs)
              have HT := Lib.hid (Tab.below HT.out hs)
              clear hs
              generalize v0.alloc (.cells #[.int .i64 x.slot, .string ⟨x.text.toArray⟩] 60) = v1 at HX HY HT HN ⊢
              generalize v0.heap.size = b9 at HN ⊢
              have hS1 : World.cell? v1 ⟨b3, 2, none⟩ = some (.int .i64 (p : Int)) ∧ World.cell? v1 ⟨b6, 0, none⟩ = some (.int .i64 x.slot) ∧ World.cell? v1 ⟨b6, 1, none⟩ = some (.string ⟨x.text.toArray⟩) := ⟨HX2.out _ HX.out, HY.out.cells 0 _ rfl, HY.out.cells 1 _ rfl⟩
              refine hK.out _ _ hS1 (fun hHeld => ?_)
              clear hK K
              try simp only [Act.put, List.setIfInBounds_toArray, List.set_cons_zero, List.set_cons_succ, List.getElem_toArray, List.getElem_cons_succ, List.getElem_cons_zero]
              refine wpAnyH_ready (rs := [12]) (by kernel_rfl) (by simp) ?_
              refine AllReadyH.cons (o := _) rfl (fun K hK => ?_) AllReadyH.nil
              have hgz : g + 1 ≤ v1.heap.size := HT.out.tab.lt
              have hlen := log_take_len l j i
              refine step_append_lies _ (by rfl) _ _ _ (by rfl) (g + 1) 60 i0 _ 2 24 Tryz.underlying58 HI.out HZ0.out HZ1.out HZ2.out rfl (by decide) _ _ _ (by rfl) (HT.out.rows i hi18) _ 1 1 #[.int .i64 x.slot, .string ⟨x.text.toArray⟩].toList (by rfl) (by rfl) HN.out (by simp [Value.oneCell']) (by omega) (by simp only [maxLen]; omega) (by omega) hgz _ rfl ?_
              intro g2 cap v2 hown hgrow hat hlt2
              have HR := Lib.hid (LogTab.more HT.out hlt (by rw [← HXe.out]; exact HPl.out) (w4 := v2) (by rw [← HXe.out]; exact hown) hgrow (by rcases hat with h9 | h9; exact .inl h9.symm; exact .inr (by rw [← h9]; rfl)))
              have HF := Lib.hid (HT.out.tab.of_block (w' := v2) (hgrow.block g HT.out.tab.lt (fun e1 => by have := ((HT.out.rows i hi18).lt g e1.symm).1; omega)))
              have HX := Lib.hid (HX.out.grownP hgrow (HFar.out i hi18))
              have HY := Lib.hid (HY.out.grownP hgrow (HFar2.out i hi18))
              clear hown hgrow hat hlt2 HT
              have hS2 : World.cell? v2 ⟨b3, 2, none⟩ = some (.int .i64 (p : Int)) ∧ World.cell? v2 ⟨b6, 0, none⟩ = some (.int .i64 x.slot) ∧ World.cell? v2 ⟨b6, 1, none⟩ = some (.string ⟨x.text.toArray⟩) := ⟨HX2.out _ HX.out, HY.out.cells 0 _ rfl, HY.out.cells 1 _ rfl⟩
              refine hK.out _ _ hS2 (fun hHeld => ?_)
              clear hK K
              try simp only [Act.put, List.setIfInBounds_toArray, List.set_cons_zero, List.set_cons_succ, List.getElem_toArray, List.getElem_cons_succ, List.getElem_cons_zero]
              refine wpAnyH_take (i := 13) (oi := _) (v := ?_) rfl (by kernel_rfl) (by kernel_rfl) (by kernel_rfl) (fun _ _ _ h => h) (Or.inl ⟨by rfl, ?_⟩) (by assumption) ?_
              rotate_left
              · intro W hSw; (try dsimp only at hSw); go_simp; try with_reducible rfl
              try simp only [Act.put, List.setIfInBounds_toArray, List.set_cons_zero, List.set_cons_succ, List.getElem_toArray, List.getElem_cons_succ, List.getElem_cons_zero]
              refine wpAnyH_ready (rs := [14]) (by kernel_rfl) (by simp) ?_
              refine AllReadyH.cons (o := _) rfl (fun K hK => ?_) AllReadyH.nil
              have hfr := HF.out.frozen i
              have hce := HF.out.cell hi18
              go_simp
              clear hfr hce
              have HX := Lib.hid (vr_set_far (g := g) (o := i) (u := .slice (some ⟨g2, 0, none⟩) ((logOf (l.take j) i).length + 1) cap) HX.out (by omega))
              have HY := Lib.hid (vr_set_far (g := g) (o := i) (u := .slice (some ⟨g2, 0, none⟩) ((logOf (l.take j) i).length + 1) cap) HY.out (by omega))
              generalize v2.setCell ⟨g, i, none⟩ (.slice (some ⟨g2, 0, none⟩) ((logOf (l.take j) i).length + 1) cap) = v3 at HX HY HR ⊢
              clear HF
              have hS3 : World.cell? v3 ⟨b3, 2, none⟩ = some (.int .i64 (p : Int)) ∧ World.cell? v3 ⟨b6, 0, none⟩ = some (.int .i64 x.slot) ∧ World.cell? v3 ⟨b6, 1, none⟩ = some (.string ⟨x.text.toArray⟩) := ⟨HX2.out _ HX.out, HY.out.cells 0 _ rfl, HY.out.cells 1 _ rfl⟩
              refine hK.out _ _ hS3 (fun hHeld => ?_)
              clear hK K
              try simp only [Act.put, List.setIfInBounds_toArray, List.set_cons_zero, List.set_cons_succ, List.getElem_toArray, List.getElem_cons_succ, List.getElem_cons_zero]
              refine wpAnyH_done (by kernel_rfl) ?_ _
              refine NoPanic.normal ?_
              clear hS0 hS1 hS2 hS3
              go_wp2_with fail
              go_roundw
              case rel => exact ⟨j + 1, _, by go_num, by omega, HR.out⟩
              case measure => simp [intOf]; omega
            · go_simp
              have hs := below_new v0 (.cells #[.int .i64 x.slot, .string ⟨x.text.toArray⟩] 60)
              have HN := Lib.hid (World.news_of_block (cs := #[.int .i64 x.slot, .string ⟨x.text.toArray⟩]) (t := 60) (fr := (0, 0)) (heap_alloc_new v0 (.cells #[.int .i64 x.slot, .string ⟨x.text.toArray⟩] 60)))
              have HX := Lib.hid (HX.out.below hs)
              have HY := Lib.hid (HY.out.below hs)
              have HT := Lib.hid (Tab.below HT.out hs)
              clear hs
              generalize v0.alloc (.cells #[.int .i64 x.slot, .string ⟨x.text.toArray⟩] 60) = v1 at HX HY HT HN ⊢
              generalize v0.heap.size = b9 at HN ⊢
              have hS1 : World.cell? v1 ⟨b3, 2, none⟩ = some (.int .i64 (p : Int)) ∧ World.cell? v1 ⟨b6, 0, none⟩ = some (.int .i64 x.slot) ∧ World.cell? v1 ⟨b6, 1, none⟩ = some (.string ⟨x.text.toArray⟩) := ⟨HX2.out _ HX.out, HY.out.cells 0 _ rfl, HY.out.cells 1 _ rfl⟩
              refine hK.out _ _ hS1 (fun hHeld => ?_)
              clear hK K
              try simp only [Act.put, List.setIfInBounds_toArray, List.set_cons_zero, List.set_cons_succ, List.getElem_toArray, List.getElem_cons_succ, List.getElem_cons_zero]
              refine wpAnyH_ready (rs := [9]) (by kernel_rfl) (by simp) ?_
              refine AllReadyH.cons (o := _) rfl (fun K hK => ?_) AllReadyH.nil
              have hat := HT.out.at hi18
              go_simp
              clear hat
              refine hK.out _ _ hS1 (fun hHeld => ?_)
              clear hK K
              try simp only [Act.put, List.setIfInBounds_toArray, List.set_cons_zero, List.set_cons_succ, List.getElem_toArray, List.getElem_cons_succ, List.getElem_cons_zero]
              refine wpAnyH_ready (rs := [12]) (by kernel_rfl) (by simp) ?_
              refine AllReadyH.cons (o := _) rfl (fun K hK => ?_) AllReadyH.nil
              have hgz : g + 1 ≤ v1.heap.size := HT.out.tab.lt
              have hlen := log_take_len l j i
              refine step_append_lies _ (by rfl) _ _ _ (by rfl) (g + 1) 60 i0 _ 2 24 Tryz.underlying58 HI.out HZ0.out HZ1.out HZ2.out rfl (by decide) _ _ _ (by rfl) (HT.out.rows i hi18) _ 1 1 #[.int .i64 x.slot, .string ⟨x.text.toArray⟩].toList (by rfl) (by rfl) HN.out (by simp [Value.oneCell']) (by omega) (by simp only [maxLen]; omega) (by omega) hgz _ rfl ?_
              intro g2 cap v2 hown hgrow hat hlt2
              have HR := Lib.hid (LogTab.more HT.out hlt (by rw [← HXe.out]; exact HPl.out) (w4 := v2) (by rw [← HXe.out]; exact hown) hgrow (by rcases hat with h9 | h9; exact .inl h9.symm; exact .inr (by rw [← h9]; rfl)))
              have HF := Lib.hid (HT.out.tab.of_block (w' := v2) (hgrow.block g HT.out.tab.lt (fun e1 => by have := ((HT.out.rows i hi18).lt g e1.symm).1; omega)))
              have HX := Lib.hid (HX.out.grownP hgrow (HFar.out i hi18))
              have HY := Lib.hid (HY.out.grownP hgrow (HFar2.out i hi18))
              clear hown hgrow hat hlt2 HT
              have hS2 : World.cell? v2 ⟨b3, 2, none⟩ = some (.int .i64 (p : Int)) ∧ World.cell? v2 ⟨b6, 0, none⟩ = some (.int .i64 x.slot) ∧ World.cell? v2 ⟨b6, 1, none⟩ = some (.string ⟨x.text.toArray⟩) := ⟨HX2.out _ HX.out, HY.out.cells 0 _ rfl, HY.out.cells 1 _ rfl⟩
              refine hK.out _ _ hS2 (fun hHeld => ?_)
              clear hK K
              try simp only [Act.put, List.setIfInBounds_toArray, List.set_cons_zero, List.set_cons_succ, List.getElem_toArray, List.getElem_cons_succ, List.getElem_cons_zero]
              refine wpAnyH_take (i := 13) (oi := _) (v := ?_) rfl (by kernel_rfl) (by kernel_rfl) (by kernel_rfl) (fun _ _ _ h => h) (Or.inl ⟨by rfl, ?_⟩) (by assumption) ?_
              rotate_left
              · intro W hSw; (try dsimp only at hSw); go_simp; try with_reducible rfl
              try simp only [Act.put, List.setIfInBounds_toArray, List.set_cons_zero, List.set_cons_succ, List.getElem_toArray, List.getElem_cons_succ, List.getElem_cons_zero]
              refine wpAnyH_ready (rs := [14]) (by kernel_rfl) (by simp) ?_
              refine AllReadyH.cons (o := _) rfl (fun K hK => ?_) AllReadyH.nil
              have hfr := HF.out.frozen i
              have hce := HF.out.cell hi18
              go_simp
              clear hfr hce
              have HX := Lib.hid (vr_set_far (g := g) (o := i) (u := .slice (some ⟨g2, 0, none⟩) ((logOf (l.take j) i).length + 1) cap) HX.out (by omega))
              have HY := Lib.hid (vr_set_far (g := g) (o := i) (u := .slice (some ⟨g2, 0, none⟩) ((logOf (l.take j) i).length + 1) cap) HY.out (by omega))
              generalize v2.setCell ⟨g, i, none⟩ (.slice (some ⟨g2, 0, none⟩) ((logOf (l.take j) i).length + 1) cap) = v3 at HX HY HR ⊢
              clear HF
              have hS3 : World.cell? v3 ⟨b3, 2, none⟩ = some (.int .i64 (p : Int)) ∧ World.cell? v3 ⟨b6, 0, none⟩ = some (.int .i64 x.slot) ∧ World.cell? v3 ⟨b6, 1, none⟩ = some (.string ⟨x.text.toArray⟩) := ⟨HX2.out _ HX.out, HY.out.cells 0 _ rfl, HY.out.cells 1 _ rfl⟩
              refine hK.out _ _ hS3 (fun hHeld => ?_)
              clear hK K
              try simp only [Act.put, List.setIfInBounds_toArray, List.set_cons_zero, List.set_cons_succ, List.getElem_toArray, List.getElem_cons_succ, List.getElem_cons_zero]
              refine wpAnyH_done (by kernel_rfl) ?_ _
              refine NoPanic.normal ?_
              clear hS0 hS1 hS2 hS3
              go_wp2_with fail
              go_roundw
              case rel => exact ⟨j + 1, _, by go_num, by omega, HR.out⟩
              case measure => simp [intOf]; omega
          | false =>
            have HN : Hid (LogTab w l g (j + 1) vs w5) := Lib.hid (LogTab.skip HT.out hlt (by rw [← HXe.out]; exact place_cl0 h3 hs))
            go_wp2_with fail
            refine (refClient_any x.who w5).mono ?_
            rintro e w4 ⟨rfl, hw4⟩; subst hw4
            rw [hs]
            clear hs h4
            go_wp2_with fail
            go_roundw
            case rel => exact ⟨j + 1, vs, by go_num, by omega, HN.out⟩
            case measure => simp [intOf]; omega
        · have t3 : (x.kind == 3) = false := by simpa using h3
          have HN : Hid (LogTab w l g (j + 1) vs w5) := Lib.hid (LogTab.skip HT.out hlt (by rw [← HXe.out]; exact place_no h4 h3))
          go_wp2_with fail
          go_roundw
          case rel => exact ⟨j + 1, vs, by go_num, by omega, HN.out⟩
          case measure => simp [intOf]; omega
    · obtain rfl : j = l.length := by omega
      have HG := Lib.hid (Tab.grid HT.out)
      have HB := Lib.hid HT.out.low
      simp only [List.take_length] at HG
      go_wp2_with fail
      go_ret
      exact ⟨_, rfl, HG.out, HB.out⟩
end Go.Proofs.YtepbbaifpckcpaaGreatDoor
