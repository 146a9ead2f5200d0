/- The law TraceOperations. -/
import Derived.Test.YtepbbaifpckcpaaGreatDoorZTo
import Derived.Test.YtepbbaifpckcpaaGreatDoorZTa
namespace Go.Proofs.YtepbbaifpckcpaaGreatDoor
open Go.RowKit

set_option maxRecDepth 100000 in
set_option maxHeartbeats 4000000 in
theorem lawOperations (A : Option Addr) (c : Nat) (l : List Pt) (w : World) (he : Env w) (hp : PtsIn w A l) (hs : ∀ x ∈ l, x.msg.sz ≤ 16777216) (hn : l.length ≤ 1048576) :
    Calls Tryz.prog 4 #[.slice A l.length c] w (RetBool true w) := by
  have HP := Lib.hid hp
  have hn2 : l.length ≤ 1099511627776 := Nat.le_trans hn (by decide)
  have HA : Hid (∀ w1, Below w.heap.size w w1 → Calls Tryz.prog 10 #[] w1 (RetBool true w1)) := Lib.hid (fun w1 hb => awake_any w1 (he.below hb))
  have HFw : Hid (∀ w1, Below w.heap.size w w1 → Calls Tryz.prog 11 #[.slice A l.length c] w1 (RetBool (ptsFew l) w1)) := Lib.hid (fun w1 hb => few53_any A c l w1 (hp.below hb) hs hn2)
  have HRO : Hid (∀ w1, Below w.heap.size w w1 → Calls Tryz.prog 18 #[.slice A l.length c] w1 (RetOps (opsFrom 0 l) w1)) := Lib.hid (fun w1 hb => refOperations_any A c l w1 (hp.below hb) hn2)
  have HRR : Hid (∀ w1, Below w.heap.size w w1 → Calls Tryz.prog 19 #[.slice A l.length c] w1 (RetOps (readsFrom 0 l) w1)) := Lib.hid (fun w1 hb => refReads_any A c l w1 (hp.below hb) hn2)
  have HUp : Hid (∀ (k : Nat) (a b : Opn), (opsFrom 0 l)[k]? = some a → (opsFrom 0 l)[k + 1]? = some b → a.first < b.first) := Lib.hid (fun k a b ha hb => by
    obtain ⟨h1, rfl⟩ := List.getElem?_eq_some_iff.1 ha
    obtain ⟨h2, rfl⟩ := List.getElem?_eq_some_iff.1 hb
    exact ops_up l k h2)
  have HEnd : Hid (∀ (k : Nat) (a : Opn), (opsFrom 0 l)[k]? = some a → a.last = -1 ∨ a.first < a.last) := Lib.hid (fun k a ha => by
    obtain ⟨h1, rfl⟩ := List.getElem?_eq_some_iff.1 ha
    exact ops_end l k h1)
  have hO1 : (opsFrom 0 l).length ≤ l.length := opsFrom_len l 0
  have hR1 : (readsFrom 0 l).length ≤ l.length := readsFrom_len l 0
  have HB0 := Lib.hid (Below.refl w.heap.size w)
  clear he hp hs
  go_enter Tryz.func4, Tryz.ntmps4
  go_wp2_with fail
  refine (HA.out _ HB0.out).mono ?_
  rintro e w1 ⟨rfl, b1⟩
  have HB1 := Lib.hid (bon HB0.out b1)
  clear b1
  go_wp2_with fail
  refine (HFw.out _ HB1.out).mono ?_
  rintro e w2 ⟨rfl, b2⟩
  have HB2 := Lib.hid (bon HB1.out b2)
  clear b2
  cases hq : ptsFew l with
  | false =>
    clear hq
    go_wp2_with fail
    refine (HA.out _ HB2.out).mono ?_
    rintro e w3 ⟨rfl, b3⟩
    have HB3 := Lib.hid (bon HB2.out b3)
    clear b3
    go_wp2_with fail
    go_ret
    exact ret_bl rfl HB3.out
  | true =>
    clear hq
    go_wp2_with fail
    refine (clonePt_any A c l w2 (HP.out.below HB2.out).1 hn).mono ?_
    rintro e w3 ⟨A3, c3, rfl, hown, hs⟩
    obtain ⟨hp3, hc3, hm3⟩ := pts_own hown (HP.out.below HB2.out).2 hs
    have HP3 := Lib.hid hp3
    have HB3 := Lib.hid (bon HB2.out hs)
    clear hs hown hp3
    go_wp2_with fail
    refine (trOperations_any A3 c3 l w3 HP3.out hn2 hc3 hm3).mono ?_
    rintro e w4 ⟨A4, c4, rfl, hrd, hs⟩
    have HR4 := Lib.hid hrd
    have HB4 := Lib.hid (bon HB3.out hs)
    clear hs hrd hc3 hm3 HP3
    go_wp2_with fail
    refine (clonePt_any A c l w4 (HP.out.below HB4.out).1 hn).mono ?_
    rintro e w5 ⟨A5, c5, rfl, hown, hs⟩
    obtain ⟨hp5, -, -⟩ := pts_own hown (HP.out.below HB4.out).2 hs
    have HP5 := Lib.hid hp5
    have HR5 := Lib.hid (HR4.out.below hs)
    have HB5 := Lib.hid (bon HB4.out hs)
    clear hs hown hp5 HR4
    go_wp2_with fail
    refine (trReads_any A5 c5 l w5 HP5.out hn2).mono ?_
    rintro e w6 ⟨A6, c6, rfl, hrd, hs⟩
    have HS6 := Lib.hid hrd
    have HR6 := Lib.hid (HR5.out.below hs)
    have HB6 := Lib.hid (bon HB5.out hs)
    clear hs hrd HP5 HR5 HP
    generalize opsFrom 0 l = O at HR6 HRO HUp HEnd hO1 ⊢
    generalize readsFrom 0 l = R at HS6 HRR hR1 ⊢
    have hO2 : O.length ≤ 1048576 := Nat.le_trans hO1 hn
    have hR2 : R.length ≤ 1048576 := Nat.le_trans hR1 hn
    clear hO1 hR1
    go_wp2_with fail
    go_loopw [22] (fun i wr => ∃ k q : Nat, i = .int .i64 k ∧ k ≤ O.length ∧ wr = w6.drewN q) (fun i _ => O.length - (intOf i).toNat)
    case atStart => exact ⟨0, 0, rfl, by omega, rfl⟩
    case round =>
      obtain ⟨k, q, rfl, hk, rfl⟩ := hrel
      by_cases hlt : k < O.length
      · have i0' : (0 : Int) ≤ (k : Int) := by omega
        have i1 : (k : Int) < (O.length : Int) := by omega
        have hE := HEnd.out k O[k] (List.getElem?_eq_getElem hlt)
        have hU : ∀ j, k = j + 1 → ∀ y, O[j]? = some y → y.first < O[k].first := fun j hj y hy => by
          subst hj
          exact HUp.out j y _ hy (List.getElem?_eq_getElem hlt)
        obtain ⟨g, off, rfl, hg, hcc⟩ := HR6.out.at opC_len (by omega) hlt
        obtain ⟨x, hx⟩ : ∃ x, x = O[k] := ⟨_, rfl⟩
        rw [← hx] at hcc hE hU
        have a1 := hcc w6 (Below.refl _ _) 1 _ rfl
        have a2 := hcc w6 (Below.refl _ _) 2 _ rfl
        clear hcc hx
        by_cases hk0 : k = 0
        · have d0 : decide (0 < k) = false := by simp; omega
          have q0 : ¬ (0 < k) := by omega
          have p0 : ¬ ((0 : Int) < (k : Int)) := by omega
          clear hk0
          by_cases hl : x.last = -1
          · have d1 : (x.last != -1) = false := by rw [hl]; rfl
            have d3 : (x.last == -1) = true := by rw [hl]; rfl
            clear hE hU
            go_wp2_with fail
            go_quiet (fail)
            all_goals
              go_wp2_with fail
              go_roundw
              case rel => exact ⟨k + 1, q + nq, by go_num, by omega, by first | rfl | exact draw_two _ _ _⟩
              case measure => simp [intOf]; omega
          · have d1 : (x.last != -1) = true := by simpa using hl
            have d3 : (x.last == -1) = false := by simpa using hl
            have hlf : x.first < x.last := by rcases hE with h | h; exact absurd h hl; exact h
            have d2 : decide (x.last ≤ x.first) = false := by simp; omega
            have p2 : ¬ (x.last ≤ x.first) := by omega
            clear hE hU
            go_wp2_with fail
            go_quiet (fail)
            all_goals
              go_wp2_with fail
              go_roundw
              case rel => exact ⟨k + 1, q + nq, by go_num, by omega, by first | rfl | exact draw_two _ _ _⟩
              case measure => simp [intOf]; omega
        · obtain ⟨j, hj⟩ : ∃ j, k = j + 1 := ⟨k - 1, by omega⟩
          have hjl : j < O.length := by omega
          obtain ⟨y, hy⟩ : ∃ y, y = O[j] := ⟨_, rfl⟩
          have hyx : y.first < x.first := hU j hj y (by rw [hy]; exact List.getElem?_eq_getElem hjl)
          obtain ⟨g', off', hA', _, hcc'⟩ := HR6.out.at opC_len (by omega) hjl
          simp only [Option.some.injEq, Addr.mk.injEq] at hA'
          obtain ⟨rfl, rfl, _⟩ := hA'
          have y1 := hcc' w6 (Below.refl _ _) 1 (.int .i64 y.first) (by rw [← hy]; rfl)
          have e8 : IntKind.i64.wrap ((k : Int) - 1) = (j : Int) := by rw [show (k : Int) - 1 = (j : Int) from by omega]; exact IntWalk.i64_in _ (by omega)
          have i2 : (0 : Int) ≤ (j : Int) := by omega
          have i3 : (j : Int) < (O.length : Int) := by omega
          have d0 : decide (0 < k) = true := by simp; omega
          have q0 : 0 < k := by omega
          have i4 : (0 : Int) < (k : Int) := by omega
          have d4 : decide (x.first ≤ y.first) = false := by simp; omega
          have p4 : ¬ (x.first ≤ y.first) := by omega
          clear hcc' hy hU hj
          by_cases hl : x.last = -1
          · have d1 : (x.last != -1) = false := by rw [hl]; rfl
            have d3 : (x.last == -1) = true := by rw [hl]; rfl
            clear hE
            go_wp2_with fail
            go_quiet (fail)
            all_goals
              go_wp2_with fail
              go_roundw
              case rel => exact ⟨k + 1, q + nq, by go_num, by omega, by first | rfl | exact draw_two _ _ _⟩
              case measure => simp [intOf]; omega
          · have d1 : (x.last != -1) = true := by simpa using hl
            have d3 : (x.last == -1) = false := by simpa using hl
            have hlf : x.first < x.last := by rcases hE with h | h; exact absurd h hl; exact h
            have d2 : decide (x.last ≤ x.first) = false := by simp; omega
            have p2 : ¬ (x.last ≤ x.first) := by omega
            clear hE
            go_wp2_with fail
            go_quiet (fail)
            all_goals
              go_wp2_with fail
              go_roundw
              case rel => exact ⟨k + 1, q + nq, by go_num, by omega, by first | rfl | exact draw_two _ _ _⟩
              case measure => simp [intOf]; omega
      · obtain rfl : k = O.length := by omega
        have HB7 := Lib.hid (bdN HB6.out q)
        have HR7 := Lib.hid (HR6.out.below (draws_below w6 q))
        have HS7 := Lib.hid (HS6.out.below (draws_below w6 q))
        generalize w6.drewN q = w7 at HB7 HR7 HS7 ⊢
        go_wp2_with fail
        refine (HRO.out w7 HB7.out).mono ?_
        rintro e w8 ⟨A8, c8, rfl, hrd, hs⟩
        have HB8 := Lib.hid (bon HB7.out hs)
        have HS8 := Lib.hid (HS7.out.below hs)
        have HSm := Lib.hid (sameOps_any A4 A8 c4 c8 O O w8 (HR7.out.below hs) hrd (by omega) (by omega))
        rw [decide_eq_true rfl] at HSm
        clear hs hrd HR7 HS7
        go_wp2_with fail
        refine HSm.out.mono ?_
        rintro e w9 ⟨rfl, q9, rfl⟩
        have HB9 := Lib.hid (bdN HB8.out q9)
        have HS9 := Lib.hid (HS8.out.below (draws_below w8 q9))
        generalize w8.drewN q9 = w9 at HB9 HS9 ⊢
        clear HSm
        go_wp2_with fail
        refine (HRR.out w9 HB9.out).mono ?_
        rintro e w10 ⟨A10, c10, rfl, hrd, hs⟩
        have HB10 := Lib.hid (bon HB9.out hs)
        have HSm := Lib.hid (sameOps_any A6 A10 c6 c10 R R w10 (HS9.out.below hs) hrd (by omega) (by omega))
        rw [decide_eq_true rfl] at HSm
        clear hs hrd HS9
        go_wp2_with fail
        refine HSm.out.mono ?_
        rintro e w11 ⟨rfl, q11, rfl⟩
        go_wp2_with fail
        go_ret
        exact ret_bl rfl (bdN HB10.out q11)
end Go.Proofs.YtepbbaifpckcpaaGreatDoor
