/- The law TraceParts. -/
import Derived.Test.YtepbbaifpckcpaaGreatDoorZTo
import Derived.Test.YtepbbaifpckcpaaGreatDoorZTu
import Derived.Test.YtepbbaifpckcpaaGreatDoorZTw
import Derived.Test.YtepbbaifpckcpaaGreatDoorZTb
import Derived.Test.YtepbbaifpckcpaaGreatDoorZTa
namespace Go.Proofs.YtepbbaifpckcpaaGreatDoor
open Go.RowKit

theorem readsFrom_app (a b : List Pt) (i : Nat) : readsFrom i (a ++ b) = readsFrom i a ++ readsFrom (i + a.length) b := by
  induction a generalizing i with
  | nil => simp [readsFrom]
  | cons x r ih =>
    simp only [List.cons_append, readsFrom, List.length_cons, ih]
    rw [show i + 1 + r.length = i + (r.length + 1) from by omega]
    split <;> simp
theorem readsFrom_at (l : List Pt) (i j : Nat) : (readsFrom i l).length = (readsFrom j l).length := by
  induction l generalizing i j with
  | nil => rfl
  | cons x r ih =>
    have := ih (i + 1) (j + 1)
    simp only [readsFrom]
    split
    · simp [this]
    · exact this
theorem reads_app_len (a b : List Pt) : (readsFrom 0 (a ++ b)).length = (readsFrom 0 a).length + (readsFrom 0 b).length := by
  rw [readsFrom_app, List.length_append, readsFrom_at b (0 + a.length) 0]
theorem below_up {w w4 w5 : World} {B : Nat} (h : Below w.heap.size w w4) (hs : Below B w4 w5) (hB : w.heap.size ≤ B) : Below w.heap.size w w5 := h.trans (hs.mono hB)
set_option maxRecDepth 100000 in
set_option maxHeartbeats 1500000 in
theorem lawParts (A B : Option Addr) (c d : Nat) (l m : List Pt) (w : World) (he : Env w) (hp : PtsIn w A l) (hs : ∀ x ∈ l, x.msg.sz ≤ 16777216) (hn : l.length ≤ 524288) (hp' : PtsIn w B m) (hs' : ∀ x ∈ m, x.msg.sz ≤ 16777216) (hm : m.length ≤ 524288) :
    Calls Tryz.prog 7 #[.slice A l.length c, .slice B m.length d] w (RetBool true w) := by
  have HP := Lib.hid hp
  have HQ := Lib.hid hp'
  have hn1 : l.length ≤ 1048576 := Nat.le_trans hn (by decide)
  have hm1 : m.length ≤ 1048576 := Nat.le_trans hm (by decide)
  have hn2 : l.length ≤ 1099511627776 := Nat.le_trans hn (by decide)
  have hm2 : m.length ≤ 1099511627776 := Nat.le_trans hm (by decide)
  have HA : Hid (∀ w1, Below w.heap.size w w1 → Calls Tryz.prog 10 #[] w1 (RetBool true w1)) := Lib.hid (fun w1 hb => awake_any w1 (he.below hb))
  have HFw : Hid (∀ w1, Below w.heap.size w w1 → Calls Tryz.prog 11 #[.slice A l.length c] w1 (RetBool (ptsFew l) w1)) := Lib.hid (fun w1 hb => few53_any A c l w1 (hp.below hb) hs hn2)
  have HFm : Hid (∀ w1, Below w.heap.size w w1 → Calls Tryz.prog 11 #[.slice B m.length d] w1 (RetBool (ptsFew m) w1)) := Lib.hid (fun w1 hb => few53_any B d m w1 (hp'.below hb) hs' hm2)
  have HB0 := Lib.hid (Below.refl w.heap.size w)
  obtain ⟨i0, hi, hz0, hz1, hz2⟩ := info_parts infoPtr
  have HI := Lib.hid hi
  have HZ0 := Lib.hid hz0
  have HZ1 := Lib.hid hz1
  have HZ2 := Lib.hid hz2
  obtain ⟨i1s, hi', hz0', hz1', hz2'⟩ := info_parts infoSlr
  have HIs := Lib.hid hi'
  have HZ0s := Lib.hid hz0'
  have HZ1s := Lib.hid hz1'
  have HZ2s := Lib.hid hz2'
  clear he hp hs hp' hs' hi hz0 hz1 hz2 hi' hz0' hz1' hz2'
  go_enter Tryz.func7, Tryz.ntmps7
  go_wp2_with fail
  refine (HA.out _ HB0.out).mono ?_
  rintro e w1 ⟨rfl, b1⟩
  have HB1 := Lib.hid (bon HB0.out b1)
  clear b1
  go_wp2_with fail
  refine (HFw.out _ HB1.out).mono ?_
  rintro e w2 ⟨rfl, b1⟩
  have HB2 := Lib.hid (bon HB1.out b1)
  clear b1
  cases hq : ptsFew l with
  | false =>
    clear hq
    go_wp2_with fail
    refine (HA.out _ HB2.out).mono ?_
    rintro e w3 ⟨rfl, b1⟩
    have HB3 := Lib.hid (bon HB2.out b1)
    clear b1
    go_wp2_with fail
    go_ret
    exact ret_bl rfl HB3.out
  | true =>
    clear hq
    go_wp2_with fail
    refine (HFm.out _ HB2.out).mono ?_
    rintro e w3 ⟨rfl, b1⟩
    have HB3 := Lib.hid (bon HB2.out b1)
    clear b1
    cases hq : ptsFew m with
    | false =>
      clear hq
      go_wp2_with fail
      refine (HA.out _ HB3.out).mono ?_
      rintro e w4 ⟨rfl, b1⟩
      have HB4 := Lib.hid (bon HB3.out b1)
      clear b1
      go_wp2_with fail
      go_ret
      exact ret_bl rfl HB4.out
    | true =>
      clear hq
      go_wp2_with fail
      refine (clonePt_any A c l w3 (HP.out.below HB3.out).1 hn1).mono ?_
      rintro e w4 ⟨A4, c4, rfl, hown, hs⟩
      have HB4 := Lib.hid (bon HB3.out hs)
      have HO4 := Lib.hid hown
      have hz34 := hs.size
      clear hs hown
      go_wp2_with (at_builtin; refine wpList_app_rd rfl _ _ 22 rfl w3.heap.size 40 i0 _ 28 368 Tryz.underlying22 HI.out HZ0.out HZ1.out HZ2.out rfl (by decide) rfl HO4.out rfl (HQ.out.below HB4.out).1 (ptsC_one m) (by simp only [maxLen]; omega) (by omega) hz34 ?_)
      intro A5 c5 w5 hown hs
      have HB5 := Lib.hid (below_up HB4.out hs HB3.out.size)
      rw [← List.flatMap_append, ← List.length_append] at hown
      have HP5 : Hid (PtsIn w5 A5 (l ++ m)) := Lib.hid ⟨Rd.own hown, fun x hx => by
        rcases List.mem_append.1 hx with h | h
        · exact Pt.below (HP.out.2 x h) HB5.out
        · exact Pt.below (HQ.out.2 x h) HB5.out⟩
      clear hown hs hz34 HO4
      rw [← List.length_append]
      generalize hLM : l ++ m = t at HP5 ⊢
      have ht0 : t.length = l.length + m.length := by rw [← hLM, List.length_append]
      have ht1 : t.length ≤ 1048576 := by omega
      have ht2 : t.length ≤ 1099511627776 := by omega
      clear ht0
      have HTl := Lib.hid hLM
      clear hLM
      go_wp2_with fail
      refine (clonePt_any A c l w5 (HP.out.below HB5.out).1 hn1).mono ?_
      rintro e w6 ⟨A6, c6, rfl, hown, hs⟩
      obtain ⟨hp3, hc6, hm6⟩ := pts_own hown (HP.out.below HB5.out).2 hs
      have HPc6 := Lib.hid hp3
      have HP5 := Lib.hid (HP5.out.below hs)
      have HB6 := Lib.hid (bon HB5.out hs)
      clear hs hown hp3
      go_wp2_with fail
      refine (trLogs_any A6 c6 l w6 HPc6.out hn2).mono ?_
      rintro e w7 ⟨A7, rfl, hgr, hs⟩
      have HGx := Lib.hid hgr
      clear hgr HPc6 hc6 hm6
      have HP5 := Lib.hid (HP5.out.below hs)
      have HB7 := Lib.hid (bon HB6.out hs)
      clear hs
      go_wp2_with fail
      refine (clonePt_any B d m w7 (HQ.out.below HB7.out).1 hm1).mono ?_
      rintro e w8 ⟨A8, c8, rfl, hown, hs⟩
      obtain ⟨hp3, hc8, hm8⟩ := pts_own hown (HQ.out.below HB7.out).2 hs
      have HPc8 := Lib.hid hp3
      have HP5 := Lib.hid (HP5.out.below hs)
      have HGx := Lib.hid (HGx.out.below hs)
      have HB8 := Lib.hid (bon HB7.out hs)
      clear hs hown hp3
      go_wp2_with fail
      refine (trLogs_any A8 c8 m w8 HPc8.out hm2).mono ?_
      rintro e w9 ⟨A9, rfl, hgr, hs⟩
      have HGy := Lib.hid hgr
      clear hgr HPc8 hc8 hm8
      have HP5 := Lib.hid (HP5.out.below hs)
      have HGx := Lib.hid (HGx.out.below hs)
      have HB9 := Lib.hid (bon HB8.out hs)
      clear hs
      go_wp2_with fail
      refine (clonePt_any A5 c5 t w9 HP5.out.1 ht1).mono ?_
      rintro e w10 ⟨A10, c10, rfl, hown, hs⟩
      obtain ⟨hp3, -, -⟩ := pts_own hown HP5.out.2 hs
      have HPc10 := Lib.hid hp3
      have HP5 := Lib.hid (HP5.out.below hs)
      have HGx := Lib.hid (HGx.out.below hs)
      have HGy := Lib.hid (HGy.out.below hs)
      have HB10 := Lib.hid (bon HB9.out hs)
      clear hs hown hp3
      go_wp2_with fail
      refine (trLogs_any A10 c10 t w10 HPc10.out ht2).mono ?_
      rintro e w11 ⟨A11, rfl, hgr, hs⟩
      have HGz := Lib.hid hgr
      clear hgr HPc10
      have HP5 := Lib.hid (HP5.out.below hs)
      have HGx := Lib.hid (HGx.out.below hs)
      have HGy := Lib.hid (HGy.out.below hs)
      have HB11 := Lib.hid (bon HB10.out hs)
      clear hs
      have HLg : Hid (∀ i, logOf t i = logOf l i ++ logOf m i) := Lib.hid (fun i => by rw [← HTl.out, logOf_app])
      go_wp2_with fail
      go_loopw [51] (fun i wr => ∃ k : Nat, i = .int .i64 k ∧ k ≤ 18 ∧ Below w11.heap.size w11 wr) (fun i _ => 18 - (intOf i).toNat)
      case atStart => exact ⟨0, rfl, by omega, Below.refl _ _⟩
      case round =>
        obtain ⟨k, rfl, hk, hB0⟩ := hrel
        have HBr := Lib.hid hB0
        clear hB0
        by_cases hlt : k < 18
        · have i0' : (0 : Int) ≤ (k : Int) := by omega
          have i1 : (k : Int) < 18 := by omega
          obtain ⟨gz, rfl, hgz, hZ⟩ := HGz.out.at'
          obtain ⟨gx, rfl, hgx, hX⟩ := HGx.out.at'
          obtain ⟨gy, rfl, hgy, hY⟩ := HGy.out.at'
          obtain ⟨Az, cz, zc, zr, _, _⟩ := hZ k hlt
          obtain ⟨Ax, cx, xc, xr, _, _⟩ := hX k hlt
          obtain ⟨Ay, cy, yc, yr, _, _⟩ := hY k hlt
          rw [HLg.out k] at zc zr
          have hla : (logOf l k).length ≤ 524288 := Nat.le_trans (logOf_len l k) hn
          have hlb : (logOf m k).length ≤ 524288 := Nat.le_trans (logOf_len m k) hm
          clear hZ hX hY
          generalize logOf l k = a at zc zr xc xr hla
          generalize logOf m k = b at zc zr yc yr hlb
          rw [List.length_append] at zc
          have HS : Hid (∀ W, Below w11.heap.size w11 W → World.cell? W ⟨gz, k, none⟩ = some (.slice Az (a.length + b.length) cz) ∧ World.cell? W ⟨gx, k, none⟩ = some (.slice Ax a.length cx) ∧ World.cell? W ⟨gy, k, none⟩ = some (.slice Ay b.length cy)) := Lib.hid (fun W hW => ⟨(hW.cell (p := ⟨gz, k, none⟩) hgz).trans zc, (hW.cell (p := ⟨gx, k, none⟩) hgx).trans xc, (hW.cell (p := ⟨gy, k, none⟩) hgy).trans yc⟩)
          have HRz := Lib.hid zr
          have HRx := Lib.hid xr
          have HRy := Lib.hid yr
          clear zc zr xc xr yc yr hgz hgx hgy
          go_wp2_with fail
          refine wp_region_noPanic ?_
          have HBr := Lib.hid (HBr.out.drew)
          have HBz := Lib.hid HBr.out.size
          generalize hv : wr.drew = v0 at HBr HBz
          have hS0 : World.cell? v0 ⟨gz, k, none⟩ = some (.slice Az (a.length + b.length) cz) ∧ World.cell? v0 ⟨gx, k, none⟩ = some (.slice Ax a.length cx) ∧ World.cell? v0 ⟨gy, k, none⟩ = some (.slice Ay b.length cy) := HS.out _ HBr.out
          refine wp_region_held_drew (S := fun W => World.cell? W ⟨gz, k, none⟩ = some (.slice Az (a.length + b.length) cz) ∧ World.cell? W ⟨gx, k, none⟩ = some (.slice Ax a.length cx) ∧ World.cell? W ⟨gy, k, none⟩ = some (.slice Ay b.length cy)) (by kernel_rfl) (by rw [hv]; exact hS0) (fun hHeld => ?_)
          rw [hv] at hHeld ⊢
          clear hv
          refine wpAnyH_take (i := 0) (oi := _) (v := ?_) rfl (by kernel_rfl) (by kernel_rfl) (by kernel_rfl) (fun _ _ _ h => h) (Or.inl ⟨by rfl, ?_⟩) (by assumption) ?_
          rotate_left
          · intro W hSw; (try dsimp only at hSw); go_simp; try with_reducible rfl
          try simp only [Act.put, List.setIfInBounds_toArray, List.set_cons_zero, List.set_cons_succ, List.getElem_toArray, List.getElem_cons_zero]
          refine wpAnyH_take (i := 1) (oi := _) (v := ?_) rfl (by kernel_rfl) (by kernel_rfl) (by kernel_rfl) (fun _ _ _ h => h) (Or.inl ⟨by rfl, ?_⟩) (by assumption) ?_
          rotate_left
          · intro W hSw; (try dsimp only at hSw); go_simp; try with_reducible rfl
          try simp only [Act.put, List.setIfInBounds_toArray, List.set_cons_zero, List.set_cons_succ, List.getElem_toArray, List.getElem_cons_succ, List.getElem_cons_zero]
          refine wpAnyH_take (i := 2) (oi := _) (v := ?_) rfl (by kernel_rfl) (by kernel_rfl) (by kernel_rfl) (fun _ _ _ h => h) (Or.inl ⟨by rfl, ?_⟩) (by assumption) ?_
          rotate_left
          · intro W hSw; (try dsimp only at hSw); go_simp; try with_reducible rfl
          try simp only [Act.put, List.setIfInBounds_toArray, List.set_cons_zero, List.set_cons_succ, List.getElem_toArray, List.getElem_cons_succ, List.getElem_cons_zero]
          refine wpAnyH_take (i := 3) (oi := _) (v := ?_) rfl (by kernel_rfl) (by kernel_rfl) (by kernel_rfl) (fun _ _ _ h => h) (Or.inl ⟨by rfl, ?_⟩) (by assumption) ?_
          rotate_left
          · intro W hSw; (try dsimp only at hSw); go_simp; try with_reducible rfl
          try simp only [Act.put, List.setIfInBounds_toArray, List.set_cons_zero, List.set_cons_succ, List.getElem_toArray, List.getElem_cons_succ, List.getElem_cons_zero]
          refine wpAnyH_take (i := 4) (oi := _) (v := ?_) rfl (by kernel_rfl) (by kernel_rfl) (by kernel_rfl) (fun _ _ _ h => h) (Or.inl ⟨by rfl, ?_⟩) (by assumption) ?_
          rotate_left
          · intro W hSw; (try dsimp only at hSw); go_simp; try with_reducible rfl
          try simp only [Act.put, List.setIfInBounds_toArray, List.set_cons_zero, List.set_cons_succ, List.getElem_toArray, List.getElem_cons_succ, List.getElem_cons_zero]
          refine wpAnyH_take (i := 5) (oi := _) (v := ?_) rfl (by kernel_rfl) (by kernel_rfl) (by kernel_rfl) (fun _ _ _ h => h) (Or.inl ⟨by rfl, ?_⟩) (by assumption) ?_
          rotate_left
          · intro W hSw; (try dsimp only at hSw); go_simp; try with_reducible rfl
          try simp only [Act.put, List.setIfInBounds_toArray, List.set_cons_zero, List.set_cons_succ, List.getElem_toArray, List.getElem_cons_succ, List.getElem_cons_zero]
          refine wpAnyH_take (i := 6) (oi := _) (v := ?_) rfl (by kernel_rfl) (by kernel_rfl) (by kernel_rfl) (fun _ _ _ h => h) (Or.inl ⟨by rfl, ?_⟩) (by assumption) ?_
          rotate_left
          · intro W hSw; (try dsimp only at hSw); go_simp; try with_reducible rfl
          try simp only [Act.put, List.setIfInBounds_toArray, List.set_cons_zero, List.set_cons_succ, List.getElem_toArray, List.getElem_cons_succ, List.getElem_cons_zero]
          refine wpAnyH_take (i := 7) (oi := _) (v := ?_) rfl (by kernel_rfl) (by kernel_rfl) (by kernel_rfl) (fun _ _ _ h => h) (Or.inl ⟨by rfl, ?_⟩) (by assumption) ?_
          rotate_left
          · intro W hSw; (try dsimp only at hSw); go_simp; try with_reducible rfl
          try simp only [Act.put, List.setIfInBounds_toArray, List.set_cons_zero, List.set_cons_succ, List.getElem_toArray, List.getElem_cons_succ, List.getElem_cons_zero]
          refine wpAnyH_take (i := 9) (oi := _) (v := ?_) rfl (by kernel_rfl) (by kernel_rfl) (by kernel_rfl) (fun _ _ _ h => h) (Or.inl ⟨by rfl, ?_⟩) (by assumption) ?_
          rotate_left
          · intro W hSw; (try dsimp only at hSw); go_simp; try with_reducible rfl
          try simp only [Act.put, List.setIfInBounds_toArray, List.set_cons_zero, List.set_cons_succ, List.getElem_toArray, List.getElem_cons_succ, List.getElem_cons_zero]
          refine wpAnyH_take (i := 10) (oi := _) (v := ?_) rfl (by kernel_rfl) (by kernel_rfl) (by kernel_rfl) (fun _ _ _ h => h) (Or.inl ⟨by rfl, ?_⟩) (by assumption) ?_
          rotate_left
          · intro W hSw; (try dsimp only at hSw); go_simp; try with_reducible rfl
          try simp only [Act.put, List.setIfInBounds_toArray, List.set_cons_zero, List.set_cons_succ, List.getElem_toArray, List.getElem_cons_succ, List.getElem_cons_zero]
          refine wpAnyH_take (i := 11) (oi := _) (v := ?_) rfl (by kernel_rfl) (by kernel_rfl) (by kernel_rfl) (fun _ _ _ h => h) (Or.inl ⟨by rfl, ?_⟩) (by assumption) ?_
          rotate_left
          · intro W hSw; (try dsimp only at hSw); go_simp; try with_reducible rfl
          try simp only [Act.put, List.setIfInBounds_toArray, List.set_cons_zero, List.set_cons_succ, List.getElem_toArray, List.getElem_cons_succ, List.getElem_cons_zero]
          refine wpAnyH_take (i := 12) (oi := _) (v := ?_) rfl (by kernel_rfl) (by kernel_rfl) (by kernel_rfl) (fun _ _ _ h => h) (Or.inl ⟨by rfl, ?_⟩) (by assumption) ?_
          rotate_left
          · intro W hSw; (try dsimp only at hSw); go_simp; try with_reducible rfl
          try simp only [Act.put, List.setIfInBounds_toArray, List.set_cons_zero, List.set_cons_succ, List.getElem_toArray, List.getElem_cons_succ, List.getElem_cons_zero]
          refine wpAnyH_ready (rs := [8]) (by kernel_rfl) (by simp) ?_
          refine AllReadyH.cons (o := _) rfl (fun K hK => ?_) AllReadyH.nil
          go_simp
          go_at_call 30
          refine (cloneSl_any Ax cx a _ (HRx.out.below HBr.out) (by omega)).mono ?_
          rintro e v1 ⟨A1, c1, rfl, hown, hs⟩
          have hz01 := hs.size
          have HBr := Lib.hid (bon HBr.out hs)
          have HO1 := Lib.hid hown
          clear hs hown
          have hS1 : World.cell? v1 ⟨gz, k, none⟩ = some (.slice Az (a.length + b.length) cz) ∧ World.cell? v1 ⟨gx, k, none⟩ = some (.slice Ax a.length cx) ∧ World.cell? v1 ⟨gy, k, none⟩ = some (.slice Ay b.length cy) := HS.out _ HBr.out
          go_wp2_with fail
          refine hK.out _ _ hS1 (fun hHeld => ?_)
          clear hK K
          try simp only [Act.put, List.setIfInBounds_toArray, List.set_cons_zero, List.set_cons_succ, List.getElem_toArray, List.getElem_cons_succ, List.getElem_cons_zero]
          refine wpAnyH_ready (rs := [13]) (by kernel_rfl) (by simp) ?_
          refine AllReadyH.cons (o := _) rfl (fun K hK => ?_) AllReadyH.nil
          refine step_app_rd (by rfl) _ _ 58 (by rfl) v0.heap.size 60 i1s _ 2 24 Tryz.underlying58 HIs.out HZ0s.out HZ1s.out HZ2s.out rfl (by decide) (by rfl) HO1.out (by rfl) (HRy.out.below HBr.out) (slsC_one b) (by simp only [maxLen]; omega) (by omega) hz01 ?_
          intro A2 c2 v2 hown hs
          have HBr := Lib.hid (below_up HBr.out hs HBz.out)
          rw [← List.flatMap_append] at hown
          have HR2 : Hid (Rd v2 2 A2 (a.length + b.length) ((a ++ b).flatMap slC)) := Lib.hid (Rd.own hown)
          clear hown hs hz01
          have hS2 : World.cell? v2 ⟨gz, k, none⟩ = some (.slice Az (a.length + b.length) cz) ∧ World.cell? v2 ⟨gx, k, none⟩ = some (.slice Ax a.length cx) ∧ World.cell? v2 ⟨gy, k, none⟩ = some (.slice Ay b.length cy) := HS.out _ HBr.out
          refine hK.out _ _ hS2 (fun hHeld => ?_)
          clear hK K
          try simp only [Act.put, List.setIfInBounds_toArray, List.set_cons_zero, List.set_cons_succ, List.getElem_toArray, List.getElem_cons_succ, List.getElem_cons_zero]
          refine wpAnyH_ready (rs := [14]) (by kernel_rfl) (by simp) ?_
          refine AllReadyH.cons (o := _) rfl (fun K hK => ?_) AllReadyH.nil
          go_simp
          go_at_call 29
          have hEq := eqSl_any Az A2 cz c2 (a ++ b) v2 (HRz.out.below HBr.out) (by rw [List.length_append]; exact HR2.out) (by rw [List.length_append]; omega)
          rw [List.length_append] at hEq
          refine hEq.mono ?_
          rintro e v3 ⟨rfl, q3, rfl⟩
          have HBr := Lib.hid (bdN HBr.out q3)
          generalize v2.drewN q3 = v3 at HBr ⊢
          have hS3 : World.cell? v3 ⟨gz, k, none⟩ = some (.slice Az (a.length + b.length) cz) ∧ World.cell? v3 ⟨gx, k, none⟩ = some (.slice Ax a.length cx) ∧ World.cell? v3 ⟨gy, k, none⟩ = some (.slice Ay b.length cy) := HS.out _ HBr.out
          go_wp2_with fail
          refine hK.out _ _ hS3 (fun hHeld => ?_)
          clear hK K
          try simp only [Act.put, List.setIfInBounds_toArray, List.set_cons_zero, List.set_cons_succ, List.getElem_toArray, List.getElem_cons_succ, List.getElem_cons_zero]
          refine wpAnyH_take (i := 15) (oi := _) (v := ?_) rfl (by kernel_rfl) (by kernel_rfl) (by kernel_rfl) (fun _ _ _ h => h) (Or.inl ⟨by rfl, ?_⟩) (by assumption) ?_
          rotate_left
          · intro W hSw; (try dsimp only at hSw); go_simp; try with_reducible rfl
          try simp only [Act.put, List.setIfInBounds_toArray, List.set_cons_zero, List.set_cons_succ, List.getElem_toArray, List.getElem_cons_succ, List.getElem_cons_zero]
          refine wpAnyH_done (by kernel_rfl) ?_ _
          refine NoPanic.normal ?_
          clear hS0 hS1 hS2 hS3
          go_wp2_with fail
          go_roundw
          case rel => exact ⟨k + 1, by go_num, by omega, HBr.out⟩
          case measure => simp [intOf]; omega
        · obtain rfl : k = 18 := by omega
          have HB12 := Lib.hid (bon HB11.out HBr.out)
          have HP5 := Lib.hid (HP5.out.below HBr.out)
          clear HBr HGx HGy HGz HLg
          obtain ⟨w12, hw12⟩ : ∃ w12, w12 = wr := ⟨_, rfl⟩
          subst hw12
          have hr0 : (readsFrom 0 t).length = (readsFrom 0 l).length + (readsFrom 0 m).length := by rw [← HTl.out]; exact reads_app_len l m
          have hm0 : (msgsOf t).length = (msgsOf l).length + (msgsOf m).length := by rw [← HTl.out, msgsOf_app, List.length_append]
          have hr1 := readsFrom_len l 0
          have hr2 := readsFrom_len m 0
          have hm3 := msgsOf_len l
          have hm4 := msgsOf_len m
          have e8 : IntKind.i64.wrap (((msgsOf l).length : Int) + ((msgsOf m).length : Int)) = ((msgsOf t).length : Int) := by rw [hm0]; exact (IntWalk.i64_in _ (by omega)).trans (by omega)
          have e9 : IntKind.i64.wrap (((readsFrom 0 l).length : Int) + ((readsFrom 0 m).length : Int)) = ((readsFrom 0 t).length : Int) := by rw [hr0]; exact (IntWalk.i64_in _ (by omega)).trans (by omega)
          clear hr0 hm0 hr1 hr2 hm3 hm4
          go_wp2_with fail
          refine (clonePt_any A5 c5 t w12 HP5.out.1 ht1).mono ?_
          rintro e w13 ⟨A13, c13, rfl, hown, hs⟩
          obtain ⟨hp3, -, -⟩ := pts_own hown HP5.out.2 hs
          have HPc13 := Lib.hid hp3
          have HP5 := Lib.hid (HP5.out.below hs)
          have HB13 := Lib.hid (bon HB12.out hs)
          clear hs hown hp3
          go_wp2_with fail
          refine (trMessages_any A13 c13 t w13 HPc13.out ht1).mono ?_
          rintro e w14 ⟨A14, c14, rfl, -, hs⟩
          clear HPc13
          have HP5 := Lib.hid (HP5.out.below hs)
          have HB14 := Lib.hid (bon HB13.out hs)
          clear hs
          go_wp2_with fail
          refine (clonePt_any A c l w14 (HP.out.below HB14.out).1 hn1).mono ?_
          rintro e w15 ⟨A15, c15, rfl, hown, hs⟩
          obtain ⟨hp3, hc15, hm15⟩ := pts_own hown (HP.out.below HB14.out).2 hs
          have HPc15 := Lib.hid hp3
          have HP5 := Lib.hid (HP5.out.below hs)
          have HB15 := Lib.hid (bon HB14.out hs)
          clear hs hown hp3
          go_wp2_with fail
          refine (trMessages_any A15 c15 l w15 HPc15.out hn1).mono ?_
          rintro e w16 ⟨A16, c16, rfl, -, hs⟩
          clear HPc15 hc15 hm15
          have HP5 := Lib.hid (HP5.out.below hs)
          have HB16 := Lib.hid (bon HB15.out hs)
          clear hs
          go_wp2_with fail
          refine (clonePt_any B d m w16 (HQ.out.below HB16.out).1 hm1).mono ?_
          rintro e w17 ⟨A17, c17, rfl, hown, hs⟩
          obtain ⟨hp3, hc17, hm17⟩ := pts_own hown (HQ.out.below HB16.out).2 hs
          have HPc17 := Lib.hid hp3
          have HP5 := Lib.hid (HP5.out.below hs)
          have HB17 := Lib.hid (bon HB16.out hs)
          clear hs hown hp3
          go_wp2_with fail
          refine (trMessages_any A17 c17 m w17 HPc17.out hm1).mono ?_
          rintro e w18 ⟨A18, c18, rfl, -, hs⟩
          clear HPc17 hc17 hm17
          have HP5 := Lib.hid (HP5.out.below hs)
          have HB18 := Lib.hid (bon HB17.out hs)
          clear hs
          go_wp2_with fail
          refine (trReads_any A5 c5 t w18 HP5.out ht2).mono ?_
          rintro e w19 ⟨A19, c19, rfl, -, hs⟩
          have HP5 := Lib.hid (HP5.out.below hs)
          have HB19 := Lib.hid (bon HB18.out hs)
          clear hs
          go_wp2_with fail
          refine (clonePt_any A c l w19 (HP.out.below HB19.out).1 hn1).mono ?_
          rintro e w20 ⟨A20, c20, rfl, hown, hs⟩
          obtain ⟨hp3, hc20, hm20⟩ := pts_own hown (HP.out.below HB19.out).2 hs
          have HPc20 := Lib.hid hp3
          have HB20 := Lib.hid (bon HB19.out hs)
          clear hs hown hp3
          go_wp2_with fail
          refine (trReads_any A20 c20 l w20 HPc20.out hn2).mono ?_
          rintro e w21 ⟨A21, c21, rfl, -, hs⟩
          clear HPc20 hc20 hm20
          have HB21 := Lib.hid (bon HB20.out hs)
          clear hs
          go_wp2_with fail
          refine (clonePt_any B d m w21 (HQ.out.below HB21.out).1 hm1).mono ?_
          rintro e w22 ⟨A22, c22, rfl, hown, hs⟩
          obtain ⟨hp3, hc22, hm22⟩ := pts_own hown (HQ.out.below HB21.out).2 hs
          have HPc22 := Lib.hid hp3
          have HB22 := Lib.hid (bon HB21.out hs)
          clear hs hown hp3
          go_wp2_with fail
          refine (trReads_any A22 c22 m w22 HPc22.out hm2).mono ?_
          rintro e w23 ⟨A23, c23, rfl, -, hs⟩
          clear HPc22 hc22 hm22
          have HB23 := Lib.hid (bon HB22.out hs)
          clear hs
          go_wp2_with fail
          go_ret
          exact ret_bl (by simp) HB23.out
end Go.Proofs.YtepbbaifpckcpaaGreatDoor
