/- The law TraceLogs. -/
import Derived.Test.YtepbbaifpckcpaaGreatDoorZTo
import Derived.Test.YtepbbaifpckcpaaGreatDoorZTu
import Derived.Test.YtepbbaifpckcpaaGreatDoorZTw
import Derived.Test.YtepbbaifpckcpaaGreatDoorZTb
import Derived.Test.YtepbbaifpckcpaaGreatDoorZTa
namespace Go.Proofs.YtepbbaifpckcpaaGreatDoor
open Go.RowKit

set_option maxRecDepth 100000 in
set_option maxHeartbeats 8000000 in
theorem lawLogs (A : Option Addr) (c : Nat) (l : List Pt) (w : World) (he : Env w) (hp : PtsIn w A l) (hs : ∀ x ∈ l, x.msg.sz ≤ 16777216) (hn : l.length ≤ 1048576) :
    Calls Tryz.prog 6 #[.slice A l.length c] w (RetBool true w) := by
  have HP := Lib.hid hp
  have hn2 : l.length ≤ 1099511627776 := Nat.le_trans hn (by decide)
  have HA : Hid (∀ w1, Below w.heap.size w w1 → Calls Tryz.prog 10 #[] w1 (RetBool true w1)) := Lib.hid (fun w1 hb => awake_any w1 (he.below hb))
  have HFw : Hid (∀ w1, Below w.heap.size w w1 → Calls Tryz.prog 11 #[.slice A l.length c] w1 (RetBool (ptsFew l) w1)) := Lib.hid (fun w1 hb => few53_any A c l w1 (hp.below hb) hs hn2)
  have HRM : Hid (∀ w1, Below w.heap.size w w1 → Calls Tryz.prog 24 #[.slice A l.length c] w1 (RetMss (msgsOf l) w1)) := Lib.hid (fun w1 hb => refMessages_any A c l w1 (hp.below hb) hn)
  have HMok : Hid (∀ m ∈ msgsOf l, m.ok w ∧ m.sz ≤ 16777216) := Lib.hid (fun m hm => by
    obtain ⟨x, hx, rfl⟩ := msgsOf_mem hm
    exact ⟨(hp.2 x hx).2, hs x hx⟩)
  have hM1 : (msgsOf l).length ≤ l.length := msgsOf_len l
  have HB0 := Lib.hid (Below.refl w.heap.size w)
  clear he hp hs
  go_enter Tryz.func6, Tryz.ntmps6
  go_wp2_with fail
  refine (HA.out _ HB0.out).mono ?_
  rintro e w1 ⟨rfl, b1⟩
  have HB1 := Lib.hid (bon HB0.out b1)
  clear b1
  go_wp2_with fail
  refine (HFw.out _ HB1.out).mono ?_
  rintro e w2 ⟨rfl, b1⟩
  have HB2 := Lib.hid (bon HB1.out b1)
  clear b1
  cases hq : ptsFew l with
  | false =>
    clear hq
    go_wp2_with fail
    refine (HA.out _ HB2.out).mono ?_
    rintro e w3 ⟨rfl, b1⟩
    have HB3 := Lib.hid (bon HB2.out b1)
    clear b1
    go_wp2_with fail
    go_ret
    exact ret_bl rfl HB3.out
  | true =>
    clear hq
    go_wp2_with fail
    refine (clonePt_any A c l w2 (HP.out.below HB2.out).1 hn).mono ?_
    rintro e w3 ⟨A3, c3, rfl, hown, hs⟩
    obtain ⟨hp3, hc3, hm3⟩ := pts_own hown (HP.out.below HB2.out).2 hs
    have HPc3 := Lib.hid hp3
    have HB3 := Lib.hid (bon HB2.out hs)
    clear hs hown hp3
    go_wp2_with fail
    refine (trMessages_any A3 c3 l w3 HPc3.out hn).mono ?_
    rintro e w4 ⟨A4, c4, rfl, hrd, hs⟩
    have HR4 := Lib.hid hrd
    clear hrd HPc3 hc3 hm3
    have HB4 := Lib.hid (bon HB3.out hs)
    clear hs
    go_wp2_with fail
    refine (HRM.out w4 HB4.out).mono ?_
    rintro e w5 ⟨A5, c5, rfl, hrd, hs⟩
    have HR5 := Lib.hid hrd
    clear hrd HRM
    have HR4 := Lib.hid (HR4.out.below hs)
    have HB5 := Lib.hid (bon HB4.out hs)
    clear hs
    generalize msgsOf l = M at HR4 HR5 HMok hM1 ⊢
    have hlb2 : ((M.length : Int) != (M.length : Int)) = false := by simp
    go_wp2_with fail
    go_loopw [26] (fun i wr => ∃ k : Nat, i = .int .i64 k ∧ k ≤ M.length ∧ Below w5.heap.size w5 wr) (fun i _ => M.length - (intOf i).toNat)
    case atStart => exact ⟨0, rfl, by omega, Below.refl _ _⟩
    case round =>
      obtain ⟨k, rfl, hk, hB0⟩ := hrel
      have HBr := Lib.hid hB0
      clear hB0
      by_cases hlt : k < M.length
      · have i0' : (0 : Int) ≤ (k : Int) := by omega
        have i1 : (k : Int) < (M.length : Int) := by omega
        obtain ⟨ba, oa, rfl, hg, hcc⟩ := HR4.out.at msC_len (by omega) hlt
        obtain ⟨bb, ob, rfl, hg2, hcc2⟩ := HR5.out.at msC_len (by omega) hlt
        obtain ⟨x, hx⟩ : ∃ x, x = M[k] := ⟨_, rfl⟩
        rw [← hx] at hcc hcc2
        have HS : Hid (∀ W, Below w5.heap.size w5 W → World.rangeAt W ba (oa + k * 21) (msC x) ∧ World.rangeAt W bb (ob + k * 21) (msC x)) := Lib.hid (fun W hW => ⟨fun j v hv => hcc W hW j v hv, fun j v hv => hcc2 W hW j v hv⟩)
        have HEq : Hid (∀ W, Below w5.heap.size w5 W → Calls Tryz.prog 25 #[.agg (msC x).toArray, .agg (msC x).toArray] W (RetBool true W)) := Lib.hid (fun W hW => by
          obtain ⟨h1, h2⟩ := HMok.out x (hx ▸ List.getElem_mem hlt)
          have h3 := Ms.below h1 (bon HB5.out hW)
          have h4 := refEqual_any x x W h3 h3 h2 h2
          rwa [sameT_self] at h4)
        clear hcc hcc2 hx hg hg2
        go_wp2_with fail
        refine wp_region_noPanic ?_
        have HBr := Lib.hid (HBr.out.drew)
        generalize hv : wr.drew = v0 at HBr
        have hS0 : World.rangeAt v0 ba (oa + k * 21) (msC x) ∧ World.rangeAt v0 bb (ob + k * 21) (msC x) := HS.out _ HBr.out
        refine wp_region_held_drew (S := fun W => World.rangeAt W ba (oa + k * 21) (msC x) ∧ World.rangeAt W bb (ob + k * 21) (msC x)) (by kernel_rfl) (by rw [hv]; exact hS0) (fun hHeld => ?_)
        rw [hv] at hHeld ⊢
        clear hv
        refine wpAnyH_take (i := 0) (oi := _) (v := ?_) rfl (by kernel_rfl) (by kernel_rfl) (by kernel_rfl) (fun _ _ _ h => h) (Or.inl ⟨by rfl, ?_⟩) (by assumption) ?_
        rotate_left
        · intro W hSw; (try dsimp only at hSw); go_simp; try with_reducible rfl
        try simp only [Act.put, List.setIfInBounds_toArray, List.set_cons_zero, List.set_cons_succ, List.getElem_toArray, List.getElem_cons_zero]
        refine wpAnyH_take (i := 1) (oi := _) (v := ?_) rfl (by kernel_rfl) (by kernel_rfl) (by kernel_rfl) (fun _ _ _ h => h) (Or.inl ⟨by rfl, ?_⟩) (by assumption) ?_
        rotate_left
        · intro W hSw; (try dsimp only at hSw); go_simp; try with_reducible rfl
        try simp only [Act.put, List.setIfInBounds_toArray, List.set_cons_zero, List.set_cons_succ, List.getElem_toArray, List.getElem_cons_succ, List.getElem_cons_zero]
        refine wpAnyH_take (i := 2) (oi := _) (v := ?_) rfl (by kernel_rfl) (by kernel_rfl) (by kernel_rfl) (fun _ _ _ h => h) (Or.inl ⟨by rfl, ?_⟩) (by assumption) ?_
        rotate_left
        · intro W hSw; (try dsimp only at hSw); go_simp; try with_reducible rfl
        try simp only [Act.put, List.setIfInBounds_toArray, List.set_cons_zero, List.set_cons_succ, List.getElem_toArray, List.getElem_cons_succ, List.getElem_cons_zero]
        refine wpAnyH_take (i := 3) (oi := _) rfl (by kernel_rfl) (by kernel_rfl) (by kernel_rfl) (fun _ _ _ h => h) (yieldsIf_load_mid (by rfl) 38 _ (by rfl) _ _ (by rfl) (msC x) _ (fun W h => h.1) Tryz.underlying38 rfl (infoMsn x)) (by assumption) ?_
        try simp only [Act.put, List.setIfInBounds_toArray, List.set_cons_zero, List.set_cons_succ, List.getElem_toArray, List.getElem_cons_succ, List.getElem_cons_zero]
        refine wpAnyH_take (i := 4) (oi := _) (v := ?_) rfl (by kernel_rfl) (by kernel_rfl) (by kernel_rfl) (fun _ _ _ h => h) (Or.inl ⟨by rfl, ?_⟩) (by assumption) ?_
        rotate_left
        · intro W hSw; (try dsimp only at hSw); go_simp; try with_reducible rfl
        try simp only [Act.put, List.setIfInBounds_toArray, List.set_cons_zero, List.set_cons_succ, List.getElem_toArray, List.getElem_cons_succ, List.getElem_cons_zero]
        refine wpAnyH_take (i := 5) (oi := _) (v := ?_) rfl (by kernel_rfl) (by kernel_rfl) (by kernel_rfl) (fun _ _ _ h => h) (Or.inl ⟨by rfl, ?_⟩) (by assumption) ?_
        rotate_left
        · intro W hSw; (try dsimp only at hSw); go_simp; try with_reducible rfl
        try simp only [Act.put, List.setIfInBounds_toArray, List.set_cons_zero, List.set_cons_succ, List.getElem_toArray, List.getElem_cons_succ, List.getElem_cons_zero]
        refine wpAnyH_take (i := 6) (oi := _) (v := ?_) rfl (by kernel_rfl) (by kernel_rfl) (by kernel_rfl) (fun _ _ _ h => h) (Or.inl ⟨by rfl, ?_⟩) (by assumption) ?_
        rotate_left
        · intro W hSw; (try dsimp only at hSw); go_simp; try with_reducible rfl
        try simp only [Act.put, List.setIfInBounds_toArray, List.set_cons_zero, List.set_cons_succ, List.getElem_toArray, List.getElem_cons_succ, List.getElem_cons_zero]
        refine wpAnyH_take (i := 7) (oi := _) rfl (by kernel_rfl) (by kernel_rfl) (by kernel_rfl) (fun _ _ _ h => h) (yieldsIf_load_mid (by rfl) 38 _ (by rfl) _ _ (by rfl) (msC x) _ (fun W h => h.2) Tryz.underlying38 rfl (infoMsn x)) (by assumption) ?_
        try simp only [Act.put, List.setIfInBounds_toArray, List.set_cons_zero, List.set_cons_succ, List.getElem_toArray, List.getElem_cons_succ, List.getElem_cons_zero]
        refine wpAnyH_ready (rs := [8]) (by kernel_rfl) (by simp) ?_
        refine AllReadyH.cons (o := _) rfl (fun K hK => ?_) AllReadyH.nil
        go_simp
        go_at_call 25
        refine (HEq.out _ HBr.out).mono ?_
        rintro e v1 ⟨rfl, hs⟩
        have HBr := Lib.hid (bon HBr.out hs)
        clear hs
        have hS1 : World.rangeAt v1 ba (oa + k * 21) (msC x) ∧ World.rangeAt v1 bb (ob + k * 21) (msC x) := HS.out _ HBr.out
        go_wp2_with fail
        refine hK.out _ _ hS1 (fun hHeld => ?_)
        clear hK K
        try simp only [Act.put, List.setIfInBounds_toArray, List.set_cons_zero, List.set_cons_succ, List.getElem_toArray, List.getElem_cons_succ, List.getElem_cons_zero]
        refine wpAnyH_take (i := 9) (oi := _) (v := ?_) rfl (by kernel_rfl) (by kernel_rfl) (by kernel_rfl) (fun _ _ _ h => h) (Or.inl ⟨by rfl, ?_⟩) (by assumption) ?_
        rotate_left
        · intro W hSw; (try dsimp only at hSw); go_simp; try with_reducible rfl
        try simp only [Act.put, List.setIfInBounds_toArray, List.set_cons_zero, List.set_cons_succ, List.getElem_toArray, List.getElem_cons_succ, List.getElem_cons_zero]
        refine wpAnyH_done (by kernel_rfl) ?_ _
        refine NoPanic.normal ?_
        clear hS0 hS1
        go_wp2_with fail
        go_roundw
        case rel => exact ⟨k + 1, by go_num, by omega, HBr.out⟩
        case measure => simp [intOf]; omega
      · obtain rfl : k = M.length := by omega
        have HB6 := Lib.hid (bon HB5.out HBr.out)
        clear HBr HR4 HR5 HMok
        obtain ⟨w6, hw6⟩ : ∃ w6, w6 = wr := ⟨_, rfl⟩
        subst hw6
        go_wp2_with fail
        refine (clonePt_any A c l w6 (HP.out.below HB6.out).1 hn).mono ?_
        rintro e w7 ⟨A7, c7, rfl, hown, hs⟩
        obtain ⟨hp3, hc7, hm7⟩ := pts_own hown (HP.out.below HB6.out).2 hs
        have HPc7 := Lib.hid hp3
        have HB7 := Lib.hid (bon HB6.out hs)
        clear hs hown hp3
        go_wp2_with fail
        refine (trLogs_any A7 c7 l w7 HPc7.out hn2).mono ?_
        rintro e w8 ⟨A8, rfl, hgr, hs⟩
        have HG8 := Lib.hid hgr
        clear hgr HPc7 hc7 hm7
        have HB8 := Lib.hid (bon HB7.out hs)
        clear hs
        go_wp2_with fail
        refine (refLogs_any A c l w8 (HP.out.below HB8.out) hn2).mono ?_
        rintro e w9 ⟨A9, rfl, hgr, hs⟩
        have HG9 := Lib.hid hgr
        clear hgr
        have HG8 := Lib.hid (HG8.out.below hs)
        have HB9 := Lib.hid (bon HB8.out hs)
        clear hs
        go_wp2_with fail
        refine (sameLogs_any A8 A9 (logOf l) w9 HG8.out HG9.out (fun i => Nat.le_trans (logOf_len l i) hn2)).mono ?_
        rintro e w10 ⟨rfl, q, rfl⟩
        go_wp2_with fail
        go_ret
        exact ret_bl rfl (bdN HB9.out q)
end Go.Proofs.YtepbbaifpckcpaaGreatDoor
