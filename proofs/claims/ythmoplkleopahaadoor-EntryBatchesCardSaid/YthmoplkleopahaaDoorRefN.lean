/- The contract of the reference's Batches. -/
import Derived.Test.YthmoplkleopahaaDoorRefG
import Derived.Test.YthmoplkleopahaaDoorEntN
import Derived.Deep.CutRange
namespace Go.Proofs.YthmoplkleopahaaDoor
open Go.RowKit

theorem ownsRow_apart {w : World} {base e k n g cap : Nat} {xs : List Value} (h : w.ownsRow base e k (.slice (some ⟨g, 0, none⟩) n cap) n xs) (p : Addr) (v : Value) (_hn : n ≠ 0) (hp : g ≠ p.block) : (w.setCell p v).ownsRow base e k (.slice (some ⟨g, 0, none⟩) n cap) n xs := by
  refine ⟨h.1, ?_⟩
  rcases h.2 with ⟨h1, _⟩ | ⟨g', cap', cur, hv, hge, hg, rest⟩
  · cases h1
  · have hgg : g = g' := by injection hv with h1 _ _; injection h1 with h2; injection h2
    exact .inr ⟨g', cap', cur, hv, hge, (Below.heap_setCell w p v g' (by omega)).trans hg, rest⟩
theorem le999 {n : Nat} {k : Int} (h1 : (n : Int) + 1 ≤ k) (h2 : k ≤ 8) : n + 1 ≤ 999 := by omega
theorem lt3 (m : Nat) : m * 3 < (m + 1) * 3 ∧ m * 3 + 1 < (m + 1) * 3 ∧ m * 3 + 2 < (m + 1) * 3 := by omega
theorem le_big {n : Nat} (h : n ≤ 1000) : (n + 1) * 40 ≤ 140737488355328 ∧ n + 1 ≤ maxLen ∧ n ≤ 9223372036854775807 := ⟨by omega, by simp [maxLen]; omega, by omega⟩
theorem bt_set3 (ini : List Bt) (x y : Bt) : ((((ini ++ [x]).flatMap btC).set (ini.length * 3) (.int .i64 1)).set (ini.length * 3 + 1) (.int .i64 0)).set (ini.length * 3 + 2) (.slice y.a y.l.length y.c) = (ini ++ [y]).flatMap btC := by
  have hl := flat_len btC 3 btC_len ini
  rw [List.flatMap_append, List.flatMap_append, List.set_append_right _ _ (by omega), List.set_append_right _ _ (by omega), List.set_append_right _ _ (by omega), hl]
  congr 1
  simp only [List.flatMap_cons, List.flatMap_nil, List.append_nil, btC, Nat.add_sub_cancel_left, Nat.sub_self]
  rfl
set_option maxRecDepth 100000 in
set_option maxHeartbeats 1000000 in
theorem refBatches_range (A : Option Addr) (c : Nat) (l : List Rq) (k b : Int) (w : World) (hbad : k < 1 ∨ 8 < k ∨ b < 1 ∨ 2000 < b) :
    Calls Tryd.prog 24 #[.slice A l.length c, .int .i64 k, .int .i64 b] w (RetBat (batE l k b) (batL l k b) w) := by
  have h7 : batE l k b = 7 := by unfold batE; rw [if_pos hbad]
  have HL : Hid (batL l k b = []) := Lib.hid (batL_bad (by rw [h7]; decide))
  have H7 := Lib.hid h7
  clear h7
  rcases hbad with h | h | h | h
  all_goals
    go_enter Tryd.func24, Tryd.ntmps24
    go_wp2_with fail
    all_goals
      go_ret2
      exact ret_bt_none H7.out HL.out (Below.refl _ _)
set_option maxRecDepth 100000 in
set_option maxHeartbeats 1000000 in
theorem refBatches_invalid (A : Option Addr) (c : Nat) (l : List Rq) (k b : Int) (w : World) (h : RqIn w A c l) (hok : ¬ (k < 1 ∨ 8 < k ∨ b < 1 ∨ 2000 < b)) (hv : vRqs [] l ≠ 0) :
    Calls Tryd.prog 24 #[.slice A l.length c, .int .i64 k, .int .i64 b] w (RetBat (batE l k b) (batL l k b) w) := by
  have h7 : batE l k b = vRqs [] l := by unfold batE; rw [if_neg hok, if_pos hv]
  have HL : Hid (batL l k b = []) := Lib.hid (batL_bad (by rw [h7]; exact hv))
  have H7 := Lib.hid h7
  have HV := Lib.hid (refRequests_any A c l w h)
  have r1 : ¬ k < 1 := fun h => hok (.inl h)
  have r2 : ¬ 8 < k := fun h => hok (.inr (.inl h))
  have r3 : ¬ b < 1 := fun h => hok (.inr (.inr (.inl h)))
  have r4 : ¬ 2000 < b := fun h => hok (.inr (.inr (.inr h)))
  generalize vRqs [] l = v at H7 HV hv
  have v1 : (v == 0) = false := by simpa using hv
  have v2 : (v != 0) = true := by simpa using hv
  clear h7 h hok hv
  go_enter Tryd.func24, Tryd.ntmps24
  go_wp2_with fail
  refine HV.out.mono ?_
  rintro e w1 ⟨rfl, b1⟩
  go_wp2_with fail
  go_ret2
  exact ret_bt_none H7.out HL.out b1
set_option maxRecDepth 100000 in
set_option maxHeartbeats 40000000 in
theorem refBatches_main (A : Option Addr) (c : Nat) (l : List Rq) (k b : Int) (w : World) (h : RqIn w A c l) (hn : l.length ≤ 1000) (hok : ¬ (k < 1 ∨ 8 < k ∨ b < 1 ∨ 2000 < b)) (hv : vRqs [] l = 0) :
    Calls Tryd.prog 24 #[.slice A l.length c, .int .i64 k, .int .i64 b] w (RetBat (batE l k b) (batL l k b) w) := by
  have HV := Lib.hid (refRequests_any A c l w h)
  rw [hv] at HV
  have HBB : Hid (∀ r ∈ l, RqB r) := Lib.hid (vRqs_mem l [] hv)
  have HSome : Hid (∀ x, bat k b [] l = some x → batE l k b = 0 ∧ batL l k b = x) := Lib.hid (fun x hx => batL_ok hok hv hx)
  have HNone : Hid (bat k b [] l = none → batE l k b = 3 ∧ batL l k b = []) := Lib.hid (fun hx => batL_big hok hv hx)
  have HQ := Lib.hid h
  have hlc := h.cap
  have hcb := h.big
  have r1 : ¬ k < 1 := fun h => hok (.inl h)
  have r2 : ¬ 8 < k := fun h => hok (.inr (.inl h))
  have r3 : ¬ b < 1 := fun h => hok (.inr (.inr (.inl h)))
  have r4 : ¬ 2000 < b := fun h => hok (.inr (.inr (.inr h)))
  obtain ⟨i0, hi, hz0, hz1, hz2⟩ := info_parts infoR
  have HI := Lib.hid hi
  have HZ0 := Lib.hid hz0
  have HZ1 := Lib.hid hz1
  have HZ2 := Lib.hid hz2
  clear hi hz0 hz1 hz2
  obtain ⟨j0, hi, hz0, hz1, hz2⟩ := info_parts infoEn
  have JI := Lib.hid hi
  have JZ0 := Lib.hid hz0
  have JZ1 := Lib.hid hz1
  have JZ2 := Lib.hid hz2
  clear hi hz0 hz1 hz2 h hok hv
  go_enter Tryd.func24, Tryd.ntmps24
  go_wp2_with fail
  refine HV.out.mono ?_
  rintro e w1 ⟨rfl, b1⟩
  have B1 := Lib.hid b1
  have HQ1 := Lib.hid (HQ.out.below B1.out)
  clear b1
  go_wp2_with fail
  go_loopw [9, 10] (fun o i wr => ∃ (j : Nat) (bs : List Bt) (A3 : Option Addr) (c3 : Nat), i = .int .i64 j ∧ j ≤ l.length ∧ bs.length ≤ j ∧ o = .slice A3 bs.length c3 ∧ wr.ownsRow w1.heap.size 24 3 (.slice A3 bs.length c3) bs.length (bs.flatMap btC) ∧ (∀ x ∈ bs, OwnB w1.heap.size wr x ∧ x.l.length ≤ 999 ∧ x.l ≠ [] ∧ ∀ r ∈ x.l, RqB r) ∧ bat k b [] l = bat k b (bs.map Bt.l) (l.drop j) ∧ Below w1.heap.size w1 wr ∧ w1.heap.size ≤ wr.heap.size) (fun _ i _ => l.length - (intOf i).toNat)
  case atStart => exact ⟨0, [], none, 0, rfl, by omega, by simp, rfl, World.ownsRow_nil _ _ _ _, by simp, rfl, Below.refl _ _, Nat.le_refl _⟩
  case round =>
    obtain ⟨j, bs, A3, c3, rfl, hj, hbj, rfl, hown, hbs, hbat, hb, hge⟩ := hrel
    have HO := Lib.hid hown
    have HBs := Lib.hid hbs
    have HBat := Lib.hid hbat
    have HBl := Lib.hid hb
    clear hown hbs hbat hb
    by_cases hlt : j < l.length
    · have i0' : (0 : Int) ≤ (j : Int) := by omega
      have i1 : (j : Int) < (l.length : Int) := by omega
      have i2 : (j : Int) + 1 ≤ (c : Int) := by omega
      have i3 : (j : Int) ≤ (j : Int) + 1 := by omega
      have i4 : (0 : Int) ≤ (j : Int) + 1 := by omega
      have w8 : IntKind.i64.wrap ((j : Int) + 1) = (j : Int) + 1 := IntWalk.i64_in _ (by omega)
      have u8 : ((j : Int) + 1).toNat = j + 1 := by omega
      have i5 : j + 1 ≤ c := by omega
      have i6 : j ≠ c := by omega
      obtain ⟨g, o, rfl, hg, hcc⟩ := HQ1.out.rd.at rqC_len (by omega) hlt
      have HCC := Lib.hid hcc
      have hrb := HBB.out l[j] (List.getElem_mem hlt)
      have HRb := Lib.hid hrb
      have HVl : Hid (∀ W, Below w1.heap.size w1 W → Calls Tryd.prog 32 #[.agg #[.int .i64 1, .int .i64 0, .slice (some ⟨g, o + j * 3, none⟩) 1 (c - j)]] W fun e w' => e = .returned (.string ⟨(valE ⟨1, 0, [l[j]]⟩).toArray⟩) ∧ Below W.heap.size W w') := Lib.hid (fun W hW => refValue_batch 1 0 [l[j]] (some ⟨g, o + j * 3, none⟩) (c - j) W ⟨⟨rfl, fun hp => ⟨g, o + j * 3, rfl, Nat.lt_of_lt_of_le hg hW.size, fun i u hu => hcc W hW i u (by simpa using hu)⟩⟩, by simp; omega, by omega, by simp, by intro r hr; simp only [List.mem_cons, List.not_mem_nil, or_false] at hr; subst hr; have := hrb.2.2.2.2.2; omega⟩ (by simp) (by intro r hr; simp only [List.mem_cons, List.not_mem_nil, or_false] at hr; subst hr; exact hrb) (by decide) (by decide))
      have HLeft := Lib.hid (HBat.out.trans (bat_left k b l j hlt (bs.map Bt.l)))
      have HFt : Hid (fitsB k b [l[j]] = decide (((valE ⟨1, 0, [l[j]]⟩).length : Int) ≤ b)) := Lib.hid (by unfold fitsB; rw [decide_eq_true (show (([l[j]].length : Nat) : Int) ≤ k by simp; omega), Bool.true_and])
      clear hcc hrb
      generalize valE ⟨1, 0, [l[j]]⟩ = vv at HVl HFt
      by_cases hfb : b < (vv.length : Int)
      · have HN : Hid (bat k b [] l = none) := Lib.hid (by rw [HLeft.out, if_pos (by rw [HFt.out, decide_eq_false (by omega)])])
        go_wp2_with fail
        refine (HVl.out _ HBl.out).mono ?_
        rintro e w2 ⟨rfl, b2⟩
        go_wp2_with fail
        go_ret2
        exact ret_bt_none (HNone.out HN.out).1 (HNone.out HN.out).2 (bon (bon B1.out HBl.out) b2)
      · have HLeft2 := Lib.hid (HLeft.out.trans (if_neg (by rw [HFt.out, decide_eq_true (by omega)]; decide)))
        go_wp2_with fail
        refine (HVl.out _ HBl.out).mono ?_
        rintro e w2 ⟨rfl, b2⟩
        have HB2 := Lib.hid (bon HBl.out b2)
        have HO2 := Lib.hid (ownsRow_below HO.out b2)
        have HBs2 : Hid (∀ y ∈ bs, OwnB w1.heap.size w2 y) := Lib.hid (fun y hy => OwnB.below (HBs.out y hy).1 b2)
        have hz2 : w1.heap.size ≤ w2.heap.size := Nat.le_trans hge b2.size
        have a0 := HCC.out w2 HB2.out 0 _ rfl
        have a1 := HCC.out w2 HB2.out 1 _ rfl
        have a2 := HCC.out w2 HB2.out 2 _ rfl
        simp only [Nat.add_zero] at a0
        have HRn : Hid (∀ r ∈ [l[j]], RqB r) := Lib.hid (fun r hr => by simp only [List.mem_cons, List.not_mem_nil, or_false] at hr; subst hr; exact HRb.out)
        clear b2
        rcases split_last bs with rfl | ⟨ini, x, rfl⟩
        · try simp only [List.length_nil]
          have HLeft3 : Hid (bat k b [] l = bat k b ([btNew w2 l[j]].map Bt.l) (l.drop (j + 1))) := Lib.hid (by rw [HLeft2.out, if_neg (by simp)]; rfl)
          go_wp2_with (at_builtin; refine wpList_append_own _ rfl _ _ 37 rfl w1.heap.size 24 j0 _ 3 40 Tryd.underlying37 JI.out JZ0.out JZ1.out JZ2.out rfl (by decide) _ _ _ rfl ((HO2.out.alloc _).alloc _) ⟨w2.heap.size + 1, 0, none⟩ 1 1 (btC (btNew w2 l[j])) rfl rfl (cell_new _ _ _ _ (by simp)) (by simp [btC, btNew, Value.oneCell']) (by simp [maxLen]) (by simp) (by simp; omega) ?_)
          intro v' w3 hown' hgrow _
          obtain ⟨A4, c4, hv4⟩ := ownsRow_form hown'
          subst hv4
          have HO4 := Lib.hid hown'
          have HG4 := Lib.hid hgrow
          have HP4 := Lib.hid (push_own (r := l[j]) hz2 (by simp) HO2.out hgrow)
          have HB4 := Lib.hid (below_grown (((HB2.out.alloc hz2 _).alloc (by simp; omega) _)) (by simp; omega) hgrow (fun g hg => by simp [Value.ownBlock] at hg; have := (HO2.out.lt g (by simpa [Value.ownBlock] using hg)).1; omega))
          clear hown' hgrow a0 a1 a2
          go_wp2_with fail
          go_roundw
          case rel =>
            refine ⟨j + 1, [btNew w2 l[j]], A4, c4, by go_num, by omega, by simp, by simp, by simpa using HO4.out, fun x hx => ⟨HP4.out x (by simpa using hx), ?_, ?_, ?_⟩, HLeft3.out, HB4.out, ?_⟩
            · simp only [List.mem_cons, List.not_mem_nil, or_false] at hx
              subst hx; simp [btNew]
            · simp only [List.mem_cons, List.not_mem_nil, or_false] at hx
              subst hx; simp [btNew]
            · simp only [List.mem_cons, List.not_mem_nil, or_false] at hx
              subst hx; exact HRn.out
            · have := HG4.out.size; simp at this; omega
          case measure => simp [intOf]; omega
        · obtain ⟨m, hm⟩ : ∃ m, m = ini.length := ⟨_, rfl⟩
          have hlen : (ini ++ [x]).length = m + 1 := by rw [hm]; simp
          have HM := Lib.hid hm
          clear hm
          have HOm : Hid (w2.ownsRow w1.heap.size 24 3 (.slice A3 (m + 1) c3) (m + 1) ((ini ++ [x]).flatMap btC)) := Lib.hid (by have h9 := HO2.out; rw [hlen] at h9; exact h9)
          rw [hlen] at hbj ⊢
          clear hlen
          obtain ⟨og, oc, hov, hog, hogl⟩ := HOm.out.form (by omega)
          simp only [Value.slice.injEq, true_and] at hov
          obtain ⟨rfl, rfl⟩ := hov
          have hx := HBs.out x (by simp)
          have HXl := Lib.hid hx.2.2.2
          have hxne := hx.2.2.1
          have hx2 := hx.2.1
          clear hx
          have im : (0 : Int) ≤ (m : Int) := by omega
          have im2 : (m : Int) < (m : Int) + 1 := by omega
          have hw1 : IntKind.i64.wrap (m : Int) = (m : Int) := IntWalk.i64_in _ (by omega)
          have hw2 : IntKind.i64.wrap ((m : Int) + 1 - 1) = (m : Int) := by rw [Int.add_sub_cancel]; exact hw1
          have x0 : w2.cell? ⟨og, m * 3, none⟩ = some (.int .i64 1) := by
            rw [HOm.out.cellAt _ (by omega), HM.out, ← Nat.add_zero (ini.length * 3), flat_get btC 3 btC_len (ini ++ [x]) ini.length (by simp) 0 (by omega)]; simp [btC]
          have x1 : w2.cell? ⟨og, m * 3 + 1, none⟩ = some (.int .i64 0) := by
            rw [HOm.out.cellAt _ (by omega), HM.out, flat_get btC 3 btC_len (ini ++ [x]) ini.length (by simp) 1 (by omega)]; simp [btC]
          have hxin := own_in (HBs2.out x (by simp)) (by omega) (fun r hr => by have := (HXl.out r hr).2.2.2.2.2; omega)
          have hxpos : 0 < x.l.length := List.length_pos_iff.2 hxne
          obtain ⟨gb, ob, hxa, hgb, hgbc⟩ := hxin.rd.cells (by rw [flat_len rqC 3 rqC_len]; omega)
          have x2 : w2.cell? ⟨og, m * 3 + 2, none⟩ = some (.slice (some ⟨gb, ob, none⟩) x.l.length x.c) := by
            rw [HOm.out.cellAt _ (by omega), HM.out, ← hxa]; exact bt_get ini x
          have HNews0 : Hid (∀ W, Below w2.heap.size w2 W → ∀ i u, (x.l.flatMap rqC)[i]? = some u → W.cell? ((⟨gb, ob, none⟩ : Addr).add i) = some u) := Lib.hid (fun W hW i u hu => by
            rw [add_plain']
            exact (hW.cell (p := ⟨gb, ob + i, none⟩) hgb).trans (hgbc i u hu))
          clear hxin hxa hgbc
          go_upto_region 14 with fail
          have HBw := below_new w2 (.cells #[.int .i64 1, .int .i64 0, .slice (some ⟨gb, ob, none⟩) x.l.length x.c] 24)
          have HTb : Hid (O3 (w2.alloc (.cells #[.int .i64 1, .int .i64 0, .slice (some ⟨gb, ob, none⟩) x.l.length x.c] 24)) w2.heap.size (.int .i64 1) (.int .i64 0) (.slice (some ⟨gb, ob, none⟩) x.l.length x.c)) := Lib.hid (O3.new w2 _ _ _ _)
          obtain ⟨w5, hw5⟩ : ∃ w5, w5 = w2.alloc (.cells #[.int .i64 1, .int .i64 0, .slice (some ⟨gb, ob, none⟩) x.l.length x.c] 24) := ⟨_, rfl⟩
          rw [← hw5] at HBw HTb ⊢
          have HW5 := Lib.hid hw5
          clear hw5
          have HBw5 := Lib.hid HBw
          clear HBw
          obtain ⟨tb, htb⟩ : ∃ tb, tb = w2.heap.size := ⟨_, rfl⟩
          rw [← htb] at HTb ⊢
          have HTbs := Lib.hid htb
          clear htb
          have HB5 := Lib.hid (bon HB2.out HBw5.out)
          have HO5 := Lib.hid (ownsRow_below HOm.out HBw5.out)
          have HBs5 : Hid (∀ y ∈ ini ++ [x], OwnB w1.heap.size w5 y) := Lib.hid (fun y hy => OwnB.below (HBs2.out y hy) HBw5.out)
          have hz5 : w1.heap.size ≤ w5.heap.size := Nat.le_trans hz2 HBw5.out.size
          have hogw : og < w5.heap.size := (HO5.out.lt og rfl).2
          have HS : Hid (∀ W, Below w5.heap.size w5 W → W.cell? ⟨tb, 2, none⟩ = some (.slice (some ⟨gb, ob, none⟩) x.l.length x.c) ∧ W.cell? ⟨g, o + j * 3, none⟩ = some (.int .i64 l[j].client) ∧ W.cell? ⟨g, o + j * 3 + 1, none⟩ = some (.int .i64 l[j].number) ∧ W.cell? ⟨g, o + j * 3 + 2, none⟩ = some (.string ⟨l[j].op.toArray⟩)) := Lib.hid (fun W hW => by
            have hW1 := bon HB5.out hW
            refine ⟨(HTb.out.below hW).c2, ?_, ?_, ?_⟩
            · have := HCC.out W hW1 0 _ rfl; simpa using this
            · exact HCC.out W hW1 1 _ rfl
            · exact HCC.out W hW1 2 _ rfl)
          have HNews : Hid (∀ W, Below w5.heap.size w5 W → ∀ i u, (x.l.flatMap rqC)[i]? = some u → W.cell? ((⟨gb, ob, none⟩ : Addr).add i) = some u) := Lib.hid (fun W hW => HNews0.out W (bon HBw5.out hW))
          have HOne := Lib.hid (rqC_one x.l)
          have HXlen := Lib.hid (flat_len rqC 3 rqC_len x.l)
          have hmx0 : 0 + x.l.length ≤ maxLen := by simp [maxLen]; omega
          have hby0 : (0 + x.l.length) * 32 ≤ 140737488355328 := by omega
          have hmx : x.l.length + 1 ≤ maxLen := by simp [maxLen]; omega
          have hby : (x.l.length + 1) * 32 ≤ 140737488355328 := by omega
          have H0 : Below w5.heap.size w5 w5 := Below.refl _ _
          have HLi : Hid ((ini ++ [x]).length = m + 1) := Lib.hid (by rw [HM.out]; simp)
          clear a0 a1 a2 x0 x1 x2
          go_cut [12] from 32 to 94 (fun t12 wx => ∃ (gt gg cap2 : Nat), t12 = .pointer (some ⟨gt, 0, none⟩) ∧ O3 wx gt (.int .i64 1) (.int .i64 0) (.slice (some ⟨gg, 0, none⟩) (x.l.length + 1) cap2) ∧ wx.ownsRow w5.heap.size 42 3 (.slice (some ⟨gg, 0, none⟩) (x.l.length + 1) cap2) (x.l.length + 1) (x.l.flatMap rqC ++ [.int .i64 l[j].client, .int .i64 l[j].number, .string ⟨l[j].op.toArray⟩]) ∧ Below w5.heap.size w5 wx)
          case first =>
            refine wp_region_noPanic ?_
            refine wp_region_held_drew (S := fun W => W.cell? ⟨tb, 2, none⟩ = some (.slice (some ⟨gb, ob, none⟩) x.l.length x.c) ∧ W.cell? ⟨g, o + j * 3, none⟩ = some (.int .i64 l[j].client) ∧ W.cell? ⟨g, o + j * 3 + 1, none⟩ = some (.int .i64 l[j].number) ∧ W.cell? ⟨g, o + j * 3 + 2, none⟩ = some (.string ⟨l[j].op.toArray⟩)) (by kernel_rfl) ?_ (fun hHeld => ?_)
            · exact HS.out _ (Below.drew H0)
            have hb0 := Below.drew H0
            generalize w5.drew = v0 at hb0 hHeld ⊢
            refine wpAnyH_take (i := 1) (oi := _) (v := ?_) rfl (by kernel_rfl) (by kernel_rfl) (by kernel_rfl) (fun _ _ _ h => h) (Or.inl ⟨by rfl, ?_⟩) (by assumption) ?_
            rotate_left
            · intro w hSw; (try dsimp only at hSw); go_simp; try with_reducible rfl
            try simp only [Act.put, List.setIfInBounds_toArray]
            refine wpAnyH_take (i := 2) (oi := _) (v := ?_) rfl (by kernel_rfl) (by kernel_rfl) (by kernel_rfl) (fun _ _ _ h => h) (Or.inl ⟨by rfl, ?_⟩) (by assumption) ?_
            rotate_left
            · intro w hSw; (try dsimp only at hSw); go_simp; try with_reducible rfl
            try simp only [Act.put]
            refine wpAnyH_take (i := 4) (oi := _) (v := ?_) rfl (by kernel_rfl) (by kernel_rfl) (by kernel_rfl) (fun _ _ _ h => h) (Or.inl ⟨by rfl, ?_⟩) (by assumption) ?_
            rotate_left
            · intro w hSw; (try dsimp only at hSw); go_simp; try with_reducible rfl
            try simp only [Act.put]
            refine wpAnyH_take (i := 5) (oi := _) (v := ?_) rfl (by kernel_rfl) (by kernel_rfl) (by kernel_rfl) (fun _ _ _ h => h) (Or.inl ⟨by rfl, ?_⟩) (by assumption) ?_
            rotate_left
            · intro w hSw; (try dsimp only at hSw); go_simp; try with_reducible rfl
            try simp only [Act.put]
            refine wpAnyH_take (i := 6) (oi := _) (v := ?_) rfl (by kernel_rfl) (by kernel_rfl) (by kernel_rfl) (fun _ _ _ h => h) (Or.inl ⟨by rfl, ?_⟩) (by assumption) ?_
            rotate_left
            · intro w hSw; (try dsimp only at hSw); go_simp; try with_reducible rfl
            try simp only [Act.put]
            refine wpAnyH_take (i := 7) (oi := _) (v := ?_) rfl (by kernel_rfl) (by kernel_rfl) (by kernel_rfl) (fun _ _ _ h => h) (Or.inl ⟨by rfl, ?_⟩) (by assumption) ?_
            rotate_left
            · intro w hSw; (try dsimp only at hSw); go_simp; try with_reducible rfl
            try simp only [Act.put]
            refine wpAnyH_ready (rs := [0, 8, 11]) (by kernel_rfl) (by simp) ?_
            refine AllReadyH.cons (o := _) rfl (fun K hK => ?_) ?_
            · go_simp
              have hs := below_new v0 (.cells #[] 42)
              have how := World.ownsRow_lit (base := w5.heap.size) (e := 42) (size := 3) v0 #[] 0 hb0.size (by simp) rfl
              generalize v0.alloc (.cells #[] 42) = v1 at hs how ⊢
              have hb1 := bon hb0 hs
              clear hs
              generalize v0.heap.size = ge at how ⊢
              have oc1 := how
              clear how
              refine hK.out _ _ ?_ (fun hHeld => ?_)
              · exact HS.out _ hb1
              clear hK K
              try simp only [Act.put, List.setIfInBounds_toArray, List.set_cons_zero, List.set_cons_succ]
              refine wpAnyH_ready (rs := [3, 8, 11]) (by kernel_rfl) (by simp) ?_
              refine AllReadyH.cons (o := _) rfl (fun K hK => ?_) ?_
              · refine step_append_lies _ (by rfl) _ _ _ (by rfl) w5.heap.size 42 i0 _ 3 32 Tryd.underlying22 HI.out HZ0.out HZ1.out HZ2.out rfl (by decide) _ _ _ (by rfl) oc1 _ x.l.length x.c (x.l.flatMap rqC) (by rfl) HXlen.out (HNews.out _ hb1) HOne.out hxpos hmx0 hby0 hb1.size _ rfl ?_
                intro gq cap1 v2 hown hgrow hat hlt1
                have hb2 := below_grown hb1 hb1.size hgrow (fun g hg => (oc1.lt g hg).1)
                simp only [Nat.zero_add, List.nil_append] at hown
                have oc2 := hown
                clear hown hgrow hat hlt1
                try simp only [Nat.zero_add]
                refine hK.out _ _ ?_ (fun hHeld => ?_)
                · exact HS.out _ hb2
                clear hK K
                try simp only [Act.put, List.setIfInBounds_toArray]
                refine wpAnyH_ready (rs := [8, 11]) (by kernel_rfl) (by simp) ?_
                refine AllReadyH.cons (o := _) rfl (fun K hK => ?_) ?_
                · go_simp
                  have hs := below_new v2 (.cells #[.int .i64 l[j].client, .int .i64 l[j].number, .string ⟨l[j].op.toArray⟩] 42)
                  have hnw := World.news_of_block (cs := #[.int .i64 l[j].client, .int .i64 l[j].number, .string ⟨l[j].op.toArray⟩]) (t := 42) (fr := (0, 0)) (heap_alloc_new v2 (.cells #[.int .i64 l[j].client, .int .i64 l[j].number, .string ⟨l[j].op.toArray⟩] 42))
                  have hlw : v2.heap.size < (v2.alloc (.cells #[.int .i64 l[j].client, .int .i64 l[j].number, .string ⟨l[j].op.toArray⟩] 42)).heap.size := by simp
                  generalize v2.alloc (.cells #[.int .i64 l[j].client, .int .i64 l[j].number, .string ⟨l[j].op.toArray⟩] 42) = v3 at hs hnw hlw ⊢
                  have hb3 := bon hb2 hs
                  have oc3 := ownsRow_below oc2 hs
                  clear hs
                  generalize hgq : v2.heap.size = gn at hnw hlw ⊢
                  have hn3 := hnw
                  have gn3 := hlw
                  clear hnw hlw
                  clear hgq
                  refine hK.out _ _ ?_ (fun hHeld => ?_)
                  · exact HS.out _ hb3
                  clear hK K
                  try simp only [Act.put, List.setIfInBounds_toArray, List.set_cons_zero, List.set_cons_succ]
                  refine wpAnyH_ready (rs := [9, 11]) (by kernel_rfl) (by simp) ?_
                  refine AllReadyH.cons (o := _) rfl (fun K hK => ?_) ?_
                  · refine step_append_lies _ (by rfl) _ _ _ (by rfl) w5.heap.size 42 i0 _ 3 32 Tryd.underlying22 HI.out HZ0.out HZ1.out HZ2.out rfl (by decide) _ _ _ (by rfl) oc3 _ 1 1 [.int .i64 l[j].client, .int .i64 l[j].number, .string ⟨l[j].op.toArray⟩] (by rfl) (by rfl) hn3 (by simp [Value.oneCell']) Nat.one_pos hmx hby hb3.size _ rfl ?_
                    intro gg cap2 v4 hown hgrow hat hlt1
                    have hb4 := below_grown hb3 hb3.size hgrow (fun g hg => (oc3.lt g hg).1)
                    have oc4 := hown
                    clear hown hgrow hat hlt1
                    refine hK.out _ _ ?_ (fun hHeld => ?_)
                    · exact HS.out _ hb4
                    clear hK K
                    try simp only [Act.put, List.setIfInBounds_toArray]
                    refine wpAnyH_take (i := 10) (oi := _) (v := ?_) rfl (by kernel_rfl) (by kernel_rfl) (by kernel_rfl) (fun _ _ _ h => h) (Or.inl ⟨by rfl, ?_⟩) (by assumption) ?_
                    rotate_left
                    · intro w hSw; (try dsimp only at hSw); go_simp; try with_reducible rfl
                    try simp only [Act.put]
                    refine wpAnyH_ready (rs := [11]) (by kernel_rfl) (by simp) ?_
                    refine AllReadyH.cons (o := _) rfl (fun K hK => ?_) ?_
                    · go_simp
                      have hgtl0 : w5.heap.size ≤ v4.heap.size := hb4.size
                      have hs := below_new v4 (.cells #[.int .i64 0, .int .i64 0, .slice none 0 0] 24)
                      have htw := O3.new v4 (.int .i64 0) (.int .i64 0) (.slice none 0 0) 24
                      have hgw : v4.heap.size ≠ gg := fun h0 => by have h8 := (oc4.lt gg rfl).2; omega
                      generalize v4.alloc (.cells #[.int .i64 0, .int .i64 0, .slice none 0 0] 24) = v5 at hs htw ⊢
                      have hb5 := bon hb4 hs
                      have oc5 := ownsRow_below oc4 hs
                      clear hs
                      generalize v4.heap.size = gt at htw hgtl0 hgw ⊢
                      have hgtl := hgtl0
                      have ht5 := htw
                      clear htw hgtl0
                      have hgt : gt ≠ gg := hgw
                      clear hgw
                      refine hK.out _ _ ?_ (fun hHeld => ?_)
                      · exact HS.out _ hb5
                      clear hK K
                      try simp only [Act.put, List.setIfInBounds_toArray, List.set_cons_zero, List.set_cons_succ]
                      refine wpAnyH_ready (rs := [12]) (by kernel_rfl) (by simp) ?_
                      refine AllReadyH.cons (o := _) rfl (fun K hK => ?_) ?_
                      · have htk := ht5
                        obtain ⟨tl, t0, t1, t2, t3, t4, t5⟩ := htk
                        go_simp
                        have hb6 := ((hb5.setCell (p := ⟨gt, 0, none⟩) (by show w5.heap.size ≤ gt; exact hgtl) (.int .i64 1)).setCell (p := ⟨gt, 1, none⟩) (by show w5.heap.size ≤ gt; exact hgtl) (.int .i64 0)).setCell (p := ⟨gt, 2, none⟩) (by show w5.heap.size ≤ gt; exact hgtl) (.slice (some ⟨gg, 0, none⟩) (x.l.length + 1) cap2)
                        refine hK.out _ _ ?_ (fun hHeld => ?_)
                        · exact HS.out _ hb6
                        clear hK K
                        try simp only [Act.put, List.setIfInBounds_toArray, List.set_cons_zero, List.set_cons_succ]
                        refine wpAnyH_done (by kernel_rfl) ?_ _
                        refine NoPanic.normal ?_
                        go_wp2_with fail
                        go_meet
                        exact ⟨gt, gg, cap2, rfl, ((ht5.set0 (.int .i64 1)).set1 (.int .i64 0)).set2 (.slice (some ⟨gg, 0, none⟩) (x.l.length + 1) cap2), ownsRow_apart (ownsRow_apart (ownsRow_apart oc5 ⟨gt, 0, none⟩ (.int .i64 1) (by omega) hgt.symm) ⟨gt, 1, none⟩ (.int .i64 0) (by omega) hgt.symm) ⟨gt, 2, none⟩ (.slice (some ⟨gg, 0, none⟩) (x.l.length + 1) cap2) (by omega) hgt.symm, hb6⟩
                      exact AllReadyH.nil
                    exact AllReadyH.nil
                  refine AllReadyH.cons (o := _) rfl (fun K hK => ?_) ?_
                  · go_simp
                    have hgtl0 : w5.heap.size ≤ v3.heap.size := hb3.size
                    have hs := below_new v3 (.cells #[.int .i64 0, .int .i64 0, .slice none 0 0] 24)
                    have htw := O3.new v3 (.int .i64 0) (.int .i64 0) (.slice none 0 0) 24
                    have hgw : v3.heap.size ≠ gq := fun h0 => by have h8 := (oc3.lt gq rfl).2; omega
                    generalize v3.alloc (.cells #[.int .i64 0, .int .i64 0, .slice none 0 0] 24) = v4 at hs htw ⊢
                    have hb4 := bon hb3 hs
                    have oc4 := ownsRow_below oc3 hs
                    have gn4 := Nat.lt_of_lt_of_le gn3 (hs).size
                    have hn4 : ∀ i u, #[.int .i64 l[j].client, .int .i64 l[j].number, .string ⟨l[j].op.toArray⟩].toList[i]? = some u → v4.cell? ((⟨gn, 0, none⟩ : Addr).add i) = some u := fun i u hu => by have h9 := hn3 i u hu; rw [add_off] at h9 ⊢; exact ((hs).cell (p := ⟨gn, 0 + i, none⟩) gn3).trans h9
                    clear hs
                    generalize v3.heap.size = gt at htw hgtl0 hgw ⊢
                    have hgtl := hgtl0
                    have ht4 := htw
                    clear htw hgtl0
                    have hgt : gt ≠ gq := hgw
                    clear hgw
                    refine hK.out _ _ ?_ (fun hHeld => ?_)
                    · exact HS.out _ hb4
                    clear hK K
                    try simp only [Act.put, List.setIfInBounds_toArray, List.set_cons_zero, List.set_cons_succ]
                    refine wpAnyH_ready (rs := [9]) (by kernel_rfl) (by simp) ?_
                    refine AllReadyH.cons (o := _) rfl (fun K hK => ?_) ?_
                    · refine step_append_lies _ (by rfl) _ _ _ (by rfl) w5.heap.size 42 i0 _ 3 32 Tryd.underlying22 HI.out HZ0.out HZ1.out HZ2.out rfl (by decide) _ _ _ (by rfl) oc4 _ 1 1 [.int .i64 l[j].client, .int .i64 l[j].number, .string ⟨l[j].op.toArray⟩] (by rfl) (by rfl) hn4 (by simp [Value.oneCell']) Nat.one_pos hmx hby hb4.size _ rfl ?_
                      intro gg cap2 v5 hown hgrow hat hlt1
                      have hb5 := below_grown hb4 hb4.size hgrow (fun g hg => (oc4.lt g hg).1)
                      have oc5 := hown
                      have ht5 := O3.grown ht4 hgrow (fun h0 => hgt (by simpa [Value.ownBlock] using h0))
                      have hgt2 : gt ≠ gg := fun h0 => by
                        rcases hat with h9 | h9
                        · simp only [Value.ownBlock, Option.some.injEq] at h9; omega
                        · have h8 := ht4.lt; omega
                      clear hgt
                      have hgt := hgt2
                      clear hgt2
                      clear hown hgrow hat hlt1
                      refine hK.out _ _ ?_ (fun hHeld => ?_)
                      · exact HS.out _ hb5
                      clear hK K
                      try simp only [Act.put, List.setIfInBounds_toArray]
                      refine wpAnyH_take (i := 10) (oi := _) (v := ?_) rfl (by kernel_rfl) (by kernel_rfl) (by kernel_rfl) (fun _ _ _ h => h) (Or.inl ⟨by rfl, ?_⟩) (by assumption) ?_
                      rotate_left
                      · intro w hSw; (try dsimp only at hSw); go_simp; try with_reducible rfl
                      try simp only [Act.put]
                      refine wpAnyH_ready (rs := [12]) (by kernel_rfl) (by simp) ?_
                      refine AllReadyH.cons (o := _) rfl (fun K hK => ?_) ?_
                      · have htk := ht5
                        obtain ⟨tl, t0, t1, t2, t3, t4, t5⟩ := htk
                        go_simp
                        have hb6 := ((hb5.setCell (p := ⟨gt, 0, none⟩) (by show w5.heap.size ≤ gt; exact hgtl) (.int .i64 1)).setCell (p := ⟨gt, 1, none⟩) (by show w5.heap.size ≤ gt; exact hgtl) (.int .i64 0)).setCell (p := ⟨gt, 2, none⟩) (by show w5.heap.size ≤ gt; exact hgtl) (.slice (some ⟨gg, 0, none⟩) (x.l.length + 1) cap2)
                        refine hK.out _ _ ?_ (fun hHeld => ?_)
                        · exact HS.out _ hb6
                        clear hK K
                        try simp only [Act.put, List.setIfInBounds_toArray, List.set_cons_zero, List.set_cons_succ]
                        refine wpAnyH_done (by kernel_rfl) ?_ _
                        refine NoPanic.normal ?_
                        go_wp2_with fail
                        go_meet
                        exact ⟨gt, gg, cap2, rfl, ((ht5.set0 (.int .i64 1)).set1 (.int .i64 0)).set2 (.slice (some ⟨gg, 0, none⟩) (x.l.length + 1) cap2), ownsRow_apart (ownsRow_apart (ownsRow_apart oc5 ⟨gt, 0, none⟩ (.int .i64 1) (by omega) hgt.symm) ⟨gt, 1, none⟩ (.int .i64 0) (by omega) hgt.symm) ⟨gt, 2, none⟩ (.slice (some ⟨gg, 0, none⟩) (x.l.length + 1) cap2) (by omega) hgt.symm, hb6⟩
                      exact AllReadyH.nil
                    exact AllReadyH.nil
                  exact AllReadyH.nil
                refine AllReadyH.cons (o := _) rfl (fun K hK => ?_) ?_
                · go_simp
                  have hgtl0 : w5.heap.size ≤ v2.heap.size := hb2.size
                  have hs := below_new v2 (.cells #[.int .i64 0, .int .i64 0, .slice none 0 0] 24)
                  have htw := O3.new v2 (.int .i64 0) (.int .i64 0) (.slice none 0 0) 24
                  have hgw : v2.heap.size ≠ gq := fun h0 => by have h8 := (oc2.lt gq rfl).2; omega
                  generalize v2.alloc (.cells #[.int .i64 0, .int .i64 0, .slice none 0 0] 24) = v3 at hs htw ⊢
                  have hb3 := bon hb2 hs
                  have oc3 := ownsRow_below oc2 hs
                  clear hs
                  generalize v2.heap.size = gt at htw hgtl0 hgw ⊢
                  have hgtl := hgtl0
                  have ht3 := htw
                  clear htw hgtl0
                  have hgt : gt ≠ gq := hgw
                  clear hgw
                  refine hK.out _ _ ?_ (fun hHeld => ?_)
                  · exact HS.out _ hb3
                  clear hK K
                  try simp only [Act.put, List.setIfInBounds_toArray, List.set_cons_zero, List.set_cons_succ]
                  refine wpAnyH_ready (rs := [8]) (by kernel_rfl) (by simp) ?_
                  refine AllReadyH.cons (o := _) rfl (fun K hK => ?_) ?_
                  · go_simp
                    have hs := below_new v3 (.cells #[.int .i64 l[j].client, .int .i64 l[j].number, .string ⟨l[j].op.toArray⟩] 42)
                    have hnw := World.news_of_block (cs := #[.int .i64 l[j].client, .int .i64 l[j].number, .string ⟨l[j].op.toArray⟩]) (t := 42) (fr := (0, 0)) (heap_alloc_new v3 (.cells #[.int .i64 l[j].client, .int .i64 l[j].number, .string ⟨l[j].op.toArray⟩] 42))
                    have hlw : v3.heap.size < (v3.alloc (.cells #[.int .i64 l[j].client, .int .i64 l[j].number, .string ⟨l[j].op.toArray⟩] 42)).heap.size := by simp
                    generalize v3.alloc (.cells #[.int .i64 l[j].client, .int .i64 l[j].number, .string ⟨l[j].op.toArray⟩] 42) = v4 at hs hnw hlw ⊢
                    have hb4 := bon hb3 hs
                    have oc4 := ownsRow_below oc3 hs
                    have ht4 := ht3.below hs
                    clear hs
                    generalize hgq : v3.heap.size = gn at hnw hlw ⊢
                    have hn4 := hnw
                    have gn4 := hlw
                    clear hnw hlw
                    clear hgq
                    refine hK.out _ _ ?_ (fun hHeld => ?_)
                    · exact HS.out _ hb4
                    clear hK K
                    try simp only [Act.put, List.setIfInBounds_toArray, List.set_cons_zero, List.set_cons_succ]
                    refine wpAnyH_ready (rs := [9]) (by kernel_rfl) (by simp) ?_
                    refine AllReadyH.cons (o := _) rfl (fun K hK => ?_) ?_
                    · refine step_append_lies _ (by rfl) _ _ _ (by rfl) w5.heap.size 42 i0 _ 3 32 Tryd.underlying22 HI.out HZ0.out HZ1.out HZ2.out rfl (by decide) _ _ _ (by rfl) oc4 _ 1 1 [.int .i64 l[j].client, .int .i64 l[j].number, .string ⟨l[j].op.toArray⟩] (by rfl) (by rfl) hn4 (by simp [Value.oneCell']) Nat.one_pos hmx hby hb4.size _ rfl ?_
                      intro gg cap2 v5 hown hgrow hat hlt1
                      have hb5 := below_grown hb4 hb4.size hgrow (fun g hg => (oc4.lt g hg).1)
                      have oc5 := hown
                      have ht5 := O3.grown ht4 hgrow (fun h0 => hgt (by simpa [Value.ownBlock] using h0))
                      have hgt2 : gt ≠ gg := fun h0 => by
                        rcases hat with h9 | h9
                        · simp only [Value.ownBlock, Option.some.injEq] at h9; omega
                        · have h8 := ht4.lt; omega
                      clear hgt
                      have hgt := hgt2
                      clear hgt2
                      clear hown hgrow hat hlt1
                      refine hK.out _ _ ?_ (fun hHeld => ?_)
                      · exact HS.out _ hb5
                      clear hK K
                      try simp only [Act.put, List.setIfInBounds_toArray]
                      refine wpAnyH_take (i := 10) (oi := _) (v := ?_) rfl (by kernel_rfl) (by kernel_rfl) (by kernel_rfl) (fun _ _ _ h => h) (Or.inl ⟨by rfl, ?_⟩) (by assumption) ?_
                      rotate_left
                      · intro w hSw; (try dsimp only at hSw); go_simp; try with_reducible rfl
                      try simp only [Act.put]
                      refine wpAnyH_ready (rs := [12]) (by kernel_rfl) (by simp) ?_
                      refine AllReadyH.cons (o := _) rfl (fun K hK => ?_) ?_
                      · have htk := ht5
                        obtain ⟨tl, t0, t1, t2, t3, t4, t5⟩ := htk
                        go_simp
                        have hb6 := ((hb5.setCell (p := ⟨gt, 0, none⟩) (by show w5.heap.size ≤ gt; exact hgtl) (.int .i64 1)).setCell (p := ⟨gt, 1, none⟩) (by show w5.heap.size ≤ gt; exact hgtl) (.int .i64 0)).setCell (p := ⟨gt, 2, none⟩) (by show w5.heap.size ≤ gt; exact hgtl) (.slice (some ⟨gg, 0, none⟩) (x.l.length + 1) cap2)
                        refine hK.out _ _ ?_ (fun hHeld => ?_)
                        · exact HS.out _ hb6
                        clear hK K
                        try simp only [Act.put, List.setIfInBounds_toArray, List.set_cons_zero, List.set_cons_succ]
                        refine wpAnyH_done (by kernel_rfl) ?_ _
                        refine NoPanic.normal ?_
                        go_wp2_with fail
                        go_meet
                        exact ⟨gt, gg, cap2, rfl, ((ht5.set0 (.int .i64 1)).set1 (.int .i64 0)).set2 (.slice (some ⟨gg, 0, none⟩) (x.l.length + 1) cap2), ownsRow_apart (ownsRow_apart (ownsRow_apart oc5 ⟨gt, 0, none⟩ (.int .i64 1) (by omega) hgt.symm) ⟨gt, 1, none⟩ (.int .i64 0) (by omega) hgt.symm) ⟨gt, 2, none⟩ (.slice (some ⟨gg, 0, none⟩) (x.l.length + 1) cap2) (by omega) hgt.symm, hb6⟩
                      exact AllReadyH.nil
                    exact AllReadyH.nil
                  exact AllReadyH.nil
                exact AllReadyH.nil
              refine AllReadyH.cons (o := _) rfl (fun K hK => ?_) ?_
              · go_simp
                have hs := below_new v1 (.cells #[.int .i64 l[j].client, .int .i64 l[j].number, .string ⟨l[j].op.toArray⟩] 42)
                have hnw := World.news_of_block (cs := #[.int .i64 l[j].client, .int .i64 l[j].number, .string ⟨l[j].op.toArray⟩]) (t := 42) (fr := (0, 0)) (heap_alloc_new v1 (.cells #[.int .i64 l[j].client, .int .i64 l[j].number, .string ⟨l[j].op.toArray⟩] 42))
                have hlw : v1.heap.size < (v1.alloc (.cells #[.int .i64 l[j].client, .int .i64 l[j].number, .string ⟨l[j].op.toArray⟩] 42)).heap.size := by simp
                generalize v1.alloc (.cells #[.int .i64 l[j].client, .int .i64 l[j].number, .string ⟨l[j].op.toArray⟩] 42) = v2 at hs hnw hlw ⊢
                have hb2 := bon hb1 hs
                have oc2 := ownsRow_below oc1 hs
                clear hs
                generalize hgq : v1.heap.size = gn at hnw hlw ⊢
                have hn2 := hnw
                have gn2 := hlw
                clear hnw hlw
                have hge : gn ≠ ge := fun h0 => by have h8 := (oc1.lt ge rfl).2; omega
                clear hgq
                refine hK.out _ _ ?_ (fun hHeld => ?_)
                · exact HS.out _ hb2
                clear hK K
                try simp only [Act.put, List.setIfInBounds_toArray, List.set_cons_zero, List.set_cons_succ]
                refine wpAnyH_ready (rs := [3, 11]) (by kernel_rfl) (by simp) ?_
                refine AllReadyH.cons (o := _) rfl (fun K hK => ?_) ?_
                · refine step_append_lies _ (by rfl) _ _ _ (by rfl) w5.heap.size 42 i0 _ 3 32 Tryd.underlying22 HI.out HZ0.out HZ1.out HZ2.out rfl (by decide) _ _ _ (by rfl) oc2 _ x.l.length x.c (x.l.flatMap rqC) (by rfl) HXlen.out (HNews.out _ hb2) HOne.out hxpos hmx0 hby0 hb2.size _ rfl ?_
                  intro gq cap1 v3 hown hgrow hat hlt1
                  have hb3 := below_grown hb2 hb2.size hgrow (fun g hg => (oc2.lt g hg).1)
                  simp only [Nat.zero_add, List.nil_append] at hown
                  have oc3 := hown
                  have gnne : some gn ≠ (Value.slice (some ⟨ge, 0, none⟩) 0 0).ownBlock := fun h0 => by simp only [Value.ownBlock, Option.some.injEq] at h0; exact hge h0
                  have gn3 := Nat.lt_of_lt_of_le gn2 hgrow.size
                  have hn3 : ∀ i u, #[.int .i64 l[j].client, .int .i64 l[j].number, .string ⟨l[j].op.toArray⟩].toList[i]? = some u → v3.cell? ((⟨gn, 0, none⟩ : Addr).add i) = some u := fun i u hu => by have h9 := hn2 i u hu; rw [add_off] at h9 ⊢; exact (hgrow.cell_far ⟨gn, 0 + i, none⟩ gn2 gnne).trans h9
                  clear hown hgrow hat hlt1
                  try simp only [Nat.zero_add]
                  refine hK.out _ _ ?_ (fun hHeld => ?_)
                  · exact HS.out _ hb3
                  clear hK K
                  try simp only [Act.put, List.setIfInBounds_toArray]
                  refine wpAnyH_ready (rs := [9, 11]) (by kernel_rfl) (by simp) ?_
                  refine AllReadyH.cons (o := _) rfl (fun K hK => ?_) ?_
                  · refine step_append_lies _ (by rfl) _ _ _ (by rfl) w5.heap.size 42 i0 _ 3 32 Tryd.underlying22 HI.out HZ0.out HZ1.out HZ2.out rfl (by decide) _ _ _ (by rfl) oc3 _ 1 1 [.int .i64 l[j].client, .int .i64 l[j].number, .string ⟨l[j].op.toArray⟩] (by rfl) (by rfl) hn3 (by simp [Value.oneCell']) Nat.one_pos hmx hby hb3.size _ rfl ?_
                    intro gg cap2 v4 hown hgrow hat hlt1
                    have hb4 := below_grown hb3 hb3.size hgrow (fun g hg => (oc3.lt g hg).1)
                    have oc4 := hown
                    clear hown hgrow hat hlt1
                    refine hK.out _ _ ?_ (fun hHeld => ?_)
                    · exact HS.out _ hb4
                    clear hK K
                    try simp only [Act.put]
                    refine wpAnyH_take (i := 10) (oi := _) (v := ?_) rfl (by kernel_rfl) (by kernel_rfl) (by kernel_rfl) (fun _ _ _ h => h) (Or.inl ⟨by rfl, ?_⟩) (by assumption) ?_
                    rotate_left
                    · intro w hSw; (try dsimp only at hSw); go_simp; try with_reducible rfl
                    try simp only [Act.put]
                    refine wpAnyH_ready (rs := [11]) (by kernel_rfl) (by simp) ?_
                    refine AllReadyH.cons (o := _) rfl (fun K hK => ?_) ?_
                    · go_simp
                      have hgtl0 : w5.heap.size ≤ v4.heap.size := hb4.size
                      have hs := below_new v4 (.cells #[.int .i64 0, .int .i64 0, .slice none 0 0] 24)
                      have htw := O3.new v4 (.int .i64 0) (.int .i64 0) (.slice none 0 0) 24
                      have hgw : v4.heap.size ≠ gg := fun h0 => by have h8 := (oc4.lt gg rfl).2; omega
                      generalize v4.alloc (.cells #[.int .i64 0, .int .i64 0, .slice none 0 0] 24) = v5 at hs htw ⊢
                      have hb5 := bon hb4 hs
                      have oc5 := ownsRow_below oc4 hs
                      clear hs
                      generalize v4.heap.size = gt at htw hgtl0 hgw ⊢
                      have hgtl := hgtl0
                      have ht5 := htw
                      clear htw hgtl0
                      have hgt : gt ≠ gg := hgw
                      clear hgw
                      refine hK.out _ _ ?_ (fun hHeld => ?_)
                      · exact HS.out _ hb5
                      clear hK K
                      try simp only [Act.put, List.setIfInBounds_toArray, List.set_cons_zero, List.set_cons_succ]
                      refine wpAnyH_ready (rs := [12]) (by kernel_rfl) (by simp) ?_
                      refine AllReadyH.cons (o := _) rfl (fun K hK => ?_) ?_
                      · have htk := ht5
                        obtain ⟨tl, t0, t1, t2, t3, t4, t5⟩ := htk
                        go_simp
                        have hb6 := ((hb5.setCell (p := ⟨gt, 0, none⟩) (by show w5.heap.size ≤ gt; exact hgtl) (.int .i64 1)).setCell (p := ⟨gt, 1, none⟩) (by show w5.heap.size ≤ gt; exact hgtl) (.int .i64 0)).setCell (p := ⟨gt, 2, none⟩) (by show w5.heap.size ≤ gt; exact hgtl) (.slice (some ⟨gg, 0, none⟩) (x.l.length + 1) cap2)
                        refine hK.out _ _ ?_ (fun hHeld => ?_)
                        · exact HS.out _ hb6
                        clear hK K
                        try simp only [Act.put, List.setIfInBounds_toArray, List.set_cons_zero, List.set_cons_succ]
                        refine wpAnyH_done (by kernel_rfl) ?_ _
                        refine NoPanic.normal ?_
                        go_wp2_with fail
                        go_meet
                        exact ⟨gt, gg, cap2, rfl, ((ht5.set0 (.int .i64 1)).set1 (.int .i64 0)).set2 (.slice (some ⟨gg, 0, none⟩) (x.l.length + 1) cap2), ownsRow_apart (ownsRow_apart (ownsRow_apart oc5 ⟨gt, 0, none⟩ (.int .i64 1) (by omega) hgt.symm) ⟨gt, 1, none⟩ (.int .i64 0) (by omega) hgt.symm) ⟨gt, 2, none⟩ (.slice (some ⟨gg, 0, none⟩) (x.l.length + 1) cap2) (by omega) hgt.symm, hb6⟩
                      exact AllReadyH.nil
                    exact AllReadyH.nil
                  refine AllReadyH.cons (o := _) rfl (fun K hK => ?_) ?_
                  · go_simp
                    have hgtl0 : w5.heap.size ≤ v3.heap.size := hb3.size
                    have hs := below_new v3 (.cells #[.int .i64 0, .int .i64 0, .slice none 0 0] 24)
                    have htw := O3.new v3 (.int .i64 0) (.int .i64 0) (.slice none 0 0) 24
                    have hgw : v3.heap.size ≠ gq := fun h0 => by have h8 := (oc3.lt gq rfl).2; omega
                    generalize v3.alloc (.cells #[.int .i64 0, .int .i64 0, .slice none 0 0] 24) = v4 at hs htw ⊢
                    have hb4 := bon hb3 hs
                    have oc4 := ownsRow_below oc3 hs
                    have gn4 := Nat.lt_of_lt_of_le gn3 (hs).size
                    have hn4 : ∀ i u, #[.int .i64 l[j].client, .int .i64 l[j].number, .string ⟨l[j].op.toArray⟩].toList[i]? = some u → v4.cell? ((⟨gn, 0, none⟩ : Addr).add i) = some u := fun i u hu => by have h9 := hn3 i u hu; rw [add_off] at h9 ⊢; exact ((hs).cell (p := ⟨gn, 0 + i, none⟩) gn3).trans h9
                    clear hs
                    generalize v3.heap.size = gt at htw hgtl0 hgw ⊢
                    have hgtl := hgtl0
                    have ht4 := htw
                    clear htw hgtl0
                    have hgt : gt ≠ gq := hgw
                    clear hgw
                    refine hK.out _ _ ?_ (fun hHeld => ?_)
                    · exact HS.out _ hb4
                    clear hK K
                    try simp only [Act.put, List.setIfInBounds_toArray, List.set_cons_zero, List.set_cons_succ]
                    refine wpAnyH_ready (rs := [9]) (by kernel_rfl) (by simp) ?_
                    refine AllReadyH.cons (o := _) rfl (fun K hK => ?_) ?_
                    · refine step_append_lies _ (by rfl) _ _ _ (by rfl) w5.heap.size 42 i0 _ 3 32 Tryd.underlying22 HI.out HZ0.out HZ1.out HZ2.out rfl (by decide) _ _ _ (by rfl) oc4 _ 1 1 [.int .i64 l[j].client, .int .i64 l[j].number, .string ⟨l[j].op.toArray⟩] (by rfl) (by rfl) hn4 (by simp [Value.oneCell']) Nat.one_pos hmx hby hb4.size _ rfl ?_
                      intro gg cap2 v5 hown hgrow hat hlt1
                      have hb5 := below_grown hb4 hb4.size hgrow (fun g hg => (oc4.lt g hg).1)
                      have oc5 := hown
                      have ht5 := O3.grown ht4 hgrow (fun h0 => hgt (by simpa [Value.ownBlock] using h0))
                      have hgt2 : gt ≠ gg := fun h0 => by
                        rcases hat with h9 | h9
                        · simp only [Value.ownBlock, Option.some.injEq] at h9; omega
                        · have h8 := ht4.lt; omega
                      clear hgt
                      have hgt := hgt2
                      clear hgt2
                      clear hown hgrow hat hlt1
                      refine hK.out _ _ ?_ (fun hHeld => ?_)
                      · exact HS.out _ hb5
                      clear hK K
                      try simp only [Act.put, List.setIfInBounds_toArray]
                      refine wpAnyH_take (i := 10) (oi := _) (v := ?_) rfl (by kernel_rfl) (by kernel_rfl) (by kernel_rfl) (fun _ _ _ h => h) (Or.inl ⟨by rfl, ?_⟩) (by assumption) ?_
                      rotate_left
                      · intro w hSw; (try dsimp only at hSw); go_simp; try with_reducible rfl
                      try simp only [Act.put]
                      refine wpAnyH_ready (rs := [12]) (by kernel_rfl) (by simp) ?_
                      refine AllReadyH.cons (o := _) rfl (fun K hK => ?_) ?_
                      · have htk := ht5
                        obtain ⟨tl, t0, t1, t2, t3, t4, t5⟩ := htk
                        go_simp
                        have hb6 := ((hb5.setCell (p := ⟨gt, 0, none⟩) (by show w5.heap.size ≤ gt; exact hgtl) (.int .i64 1)).setCell (p := ⟨gt, 1, none⟩) (by show w5.heap.size ≤ gt; exact hgtl) (.int .i64 0)).setCell (p := ⟨gt, 2, none⟩) (by show w5.heap.size ≤ gt; exact hgtl) (.slice (some ⟨gg, 0, none⟩) (x.l.length + 1) cap2)
                        refine hK.out _ _ ?_ (fun hHeld => ?_)
                        · exact HS.out _ hb6
                        clear hK K
                        try simp only [Act.put, List.setIfInBounds_toArray, List.set_cons_zero, List.set_cons_succ]
                        refine wpAnyH_done (by kernel_rfl) ?_ _
                        refine NoPanic.normal ?_
                        go_wp2_with fail
                        go_meet
                        exact ⟨gt, gg, cap2, rfl, ((ht5.set0 (.int .i64 1)).set1 (.int .i64 0)).set2 (.slice (some ⟨gg, 0, none⟩) (x.l.length + 1) cap2), ownsRow_apart (ownsRow_apart (ownsRow_apart oc5 ⟨gt, 0, none⟩ (.int .i64 1) (by omega) hgt.symm) ⟨gt, 1, none⟩ (.int .i64 0) (by omega) hgt.symm) ⟨gt, 2, none⟩ (.slice (some ⟨gg, 0, none⟩) (x.l.length + 1) cap2) (by omega) hgt.symm, hb6⟩
                      exact AllReadyH.nil
                    exact AllReadyH.nil
                  exact AllReadyH.nil
                refine AllReadyH.cons (o := _) rfl (fun K hK => ?_) ?_
                · go_simp
                  have hgtl0 : w5.heap.size ≤ v2.heap.size := hb2.size
                  have hs := below_new v2 (.cells #[.int .i64 0, .int .i64 0, .slice none 0 0] 24)
                  have htw := O3.new v2 (.int .i64 0) (.int .i64 0) (.slice none 0 0) 24
                  have hgw : v2.heap.size ≠ ge := fun h0 => by have h8 := (oc2.lt ge rfl).2; omega
                  generalize v2.alloc (.cells #[.int .i64 0, .int .i64 0, .slice none 0 0] 24) = v3 at hs htw ⊢
                  have hb3 := bon hb2 hs
                  have oc3 := ownsRow_below oc2 hs
                  have gn3 := Nat.lt_of_lt_of_le gn2 (hs).size
                  have hn3 : ∀ i u, #[.int .i64 l[j].client, .int .i64 l[j].number, .string ⟨l[j].op.toArray⟩].toList[i]? = some u → v3.cell? ((⟨gn, 0, none⟩ : Addr).add i) = some u := fun i u hu => by have h9 := hn2 i u hu; rw [add_off] at h9 ⊢; exact ((hs).cell (p := ⟨gn, 0 + i, none⟩) gn2).trans h9
                  clear hs
                  generalize v2.heap.size = gt at htw hgtl0 hgw ⊢
                  have hgtl := hgtl0
                  have ht3 := htw
                  clear htw hgtl0
                  have hgt : gt ≠ ge := hgw
                  clear hgw
                  refine hK.out _ _ ?_ (fun hHeld => ?_)
                  · exact HS.out _ hb3
                  clear hK K
                  try simp only [Act.put, List.setIfInBounds_toArray, List.set_cons_zero, List.set_cons_succ]
                  refine wpAnyH_ready (rs := [3]) (by kernel_rfl) (by simp) ?_
                  refine AllReadyH.cons (o := _) rfl (fun K hK => ?_) ?_
                  · refine step_append_lies _ (by rfl) _ _ _ (by rfl) w5.heap.size 42 i0 _ 3 32 Tryd.underlying22 HI.out HZ0.out HZ1.out HZ2.out rfl (by decide) _ _ _ (by rfl) oc3 _ x.l.length x.c (x.l.flatMap rqC) (by rfl) HXlen.out (HNews.out _ hb3) HOne.out hxpos hmx0 hby0 hb3.size _ rfl ?_
                    intro gq cap1 v4 hown hgrow hat hlt1
                    have hb4 := below_grown hb3 hb3.size hgrow (fun g hg => (oc3.lt g hg).1)
                    simp only [Nat.zero_add, List.nil_append] at hown
                    have oc4 := hown
                    have gnne : some gn ≠ (Value.slice (some ⟨ge, 0, none⟩) 0 0).ownBlock := fun h0 => by simp only [Value.ownBlock, Option.some.injEq] at h0; exact hge h0
                    have gn4 := Nat.lt_of_lt_of_le gn3 hgrow.size
                    have hn4 : ∀ i u, #[.int .i64 l[j].client, .int .i64 l[j].number, .string ⟨l[j].op.toArray⟩].toList[i]? = some u → v4.cell? ((⟨gn, 0, none⟩ : Addr).add i) = some u := fun i u hu => by have h9 := hn3 i u hu; rw [add_off] at h9 ⊢; exact (hgrow.cell_far ⟨gn, 0 + i, none⟩ gn3 gnne).trans h9
                    have ht4 := O3.grown ht3 hgrow (fun h0 => hgt (by simpa [Value.ownBlock] using h0))
                    have hgt2 : gt ≠ gq := fun h0 => by
                      rcases hat with h9 | h9
                      · simp only [Value.ownBlock, Option.some.injEq] at h9; omega
                      · have h8 := ht3.lt; omega
                    clear hgt
                    have hgt := hgt2
                    clear hgt2
                    clear hown hgrow hat hlt1
                    try simp only [Nat.zero_add]
                    refine hK.out _ _ ?_ (fun hHeld => ?_)
                    · exact HS.out _ hb4
                    clear hK K
                    try simp only [Act.put, List.setIfInBounds_toArray]
                    refine wpAnyH_ready (rs := [9]) (by kernel_rfl) (by simp) ?_
                    refine AllReadyH.cons (o := _) rfl (fun K hK => ?_) ?_
                    · refine step_append_lies _ (by rfl) _ _ _ (by rfl) w5.heap.size 42 i0 _ 3 32 Tryd.underlying22 HI.out HZ0.out HZ1.out HZ2.out rfl (by decide) _ _ _ (by rfl) oc4 _ 1 1 [.int .i64 l[j].client, .int .i64 l[j].number, .string ⟨l[j].op.toArray⟩] (by rfl) (by rfl) hn4 (by simp [Value.oneCell']) Nat.one_pos hmx hby hb4.size _ rfl ?_
                      intro gg cap2 v5 hown hgrow hat hlt1
                      have hb5 := below_grown hb4 hb4.size hgrow (fun g hg => (oc4.lt g hg).1)
                      have oc5 := hown
                      have ht5 := O3.grown ht4 hgrow (fun h0 => hgt (by simpa [Value.ownBlock] using h0))
                      have hgt2 : gt ≠ gg := fun h0 => by
                        rcases hat with h9 | h9
                        · simp only [Value.ownBlock, Option.some.injEq] at h9; omega
                        · have h8 := ht4.lt; omega
                      clear hgt
                      have hgt := hgt2
                      clear hgt2
                      clear hown hgrow hat hlt1
                      refine hK.out _ _ ?_ (fun hHeld => ?_)
                      · exact HS.out _ hb5
                      clear hK K
                      try simp only [Act.put]
                      refine wpAnyH_take (i := 10) (oi := _) (v := ?_) rfl (by kernel_rfl) (by kernel_rfl) (by kernel_rfl) (fun _ _ _ h => h) (Or.inl ⟨by rfl, ?_⟩) (by assumption) ?_
                      rotate_left
                      · intro w hSw; (try dsimp only at hSw); go_simp; try with_reducible rfl
                      try simp only [Act.put]
                      refine wpAnyH_ready (rs := [12]) (by kernel_rfl) (by simp) ?_
                      refine AllReadyH.cons (o := _) rfl (fun K hK => ?_) ?_
                      · have htk := ht5
                        obtain ⟨tl, t0, t1, t2, t3, t4, t5⟩ := htk
                        go_simp
                        have hb6 := ((hb5.setCell (p := ⟨gt, 0, none⟩) (by show w5.heap.size ≤ gt; exact hgtl) (.int .i64 1)).setCell (p := ⟨gt, 1, none⟩) (by show w5.heap.size ≤ gt; exact hgtl) (.int .i64 0)).setCell (p := ⟨gt, 2, none⟩) (by show w5.heap.size ≤ gt; exact hgtl) (.slice (some ⟨gg, 0, none⟩) (x.l.length + 1) cap2)
                        refine hK.out _ _ ?_ (fun hHeld => ?_)
                        · exact HS.out _ hb6
                        clear hK K
                        try simp only [Act.put, List.setIfInBounds_toArray, List.set_cons_zero, List.set_cons_succ]
                        refine wpAnyH_done (by kernel_rfl) ?_ _
                        refine NoPanic.normal ?_
                        go_wp2_with fail
                        go_meet
                        exact ⟨gt, gg, cap2, rfl, ((ht5.set0 (.int .i64 1)).set1 (.int .i64 0)).set2 (.slice (some ⟨gg, 0, none⟩) (x.l.length + 1) cap2), ownsRow_apart (ownsRow_apart (ownsRow_apart oc5 ⟨gt, 0, none⟩ (.int .i64 1) (by omega) hgt.symm) ⟨gt, 1, none⟩ (.int .i64 0) (by omega) hgt.symm) ⟨gt, 2, none⟩ (.slice (some ⟨gg, 0, none⟩) (x.l.length + 1) cap2) (by omega) hgt.symm, hb6⟩
                      exact AllReadyH.nil
                    exact AllReadyH.nil
                  exact AllReadyH.nil
                exact AllReadyH.nil
              refine AllReadyH.cons (o := _) rfl (fun K hK => ?_) ?_
              · go_simp
                have hgtl0 : w5.heap.size ≤ v1.heap.size := hb1.size
                have hs := below_new v1 (.cells #[.int .i64 0, .int .i64 0, .slice none 0 0] 24)
                have htw := O3.new v1 (.int .i64 0) (.int .i64 0) (.slice none 0 0) 24
                have hgw : v1.heap.size ≠ ge := fun h0 => by have h8 := (oc1.lt ge rfl).2; omega
                generalize v1.alloc (.cells #[.int .i64 0, .int .i64 0, .slice none 0 0] 24) = v2 at hs htw ⊢
                have hb2 := bon hb1 hs
                have oc2 := ownsRow_below oc1 hs
                clear hs
                generalize v1.heap.size = gt at htw hgtl0 hgw ⊢
                have hgtl := hgtl0
                have ht2 := htw
                clear htw hgtl0
                have hgt : gt ≠ ge := hgw
                clear hgw
                refine hK.out _ _ ?_ (fun hHeld => ?_)
                · exact HS.out _ hb2
                clear hK K
                try simp only [Act.put, List.setIfInBounds_toArray, List.set_cons_zero, List.set_cons_succ]
                refine wpAnyH_ready (rs := [3, 8]) (by kernel_rfl) (by simp) ?_
                refine AllReadyH.cons (o := _) rfl (fun K hK => ?_) ?_
                · refine step_append_lies _ (by rfl) _ _ _ (by rfl) w5.heap.size 42 i0 _ 3 32 Tryd.underlying22 HI.out HZ0.out HZ1.out HZ2.out rfl (by decide) _ _ _ (by rfl) oc2 _ x.l.length x.c (x.l.flatMap rqC) (by rfl) HXlen.out (HNews.out _ hb2) HOne.out hxpos hmx0 hby0 hb2.size _ rfl ?_
                  intro gq cap1 v3 hown hgrow hat hlt1
                  have hb3 := below_grown hb2 hb2.size hgrow (fun g hg => (oc2.lt g hg).1)
                  simp only [Nat.zero_add, List.nil_append] at hown
                  have oc3 := hown
                  have ht3 := O3.grown ht2 hgrow (fun h0 => hgt (by simpa [Value.ownBlock] using h0))
                  have hgt2 : gt ≠ gq := fun h0 => by
                    rcases hat with h9 | h9
                    · simp only [Value.ownBlock, Option.some.injEq] at h9; omega
                    · have h8 := ht2.lt; omega
                  clear hgt
                  have hgt := hgt2
                  clear hgt2
                  clear hown hgrow hat hlt1
                  try simp only [Nat.zero_add]
                  refine hK.out _ _ ?_ (fun hHeld => ?_)
                  · exact HS.out _ hb3
                  clear hK K
                  try simp only [Act.put, List.setIfInBounds_toArray]
                  refine wpAnyH_ready (rs := [8]) (by kernel_rfl) (by simp) ?_
                  refine AllReadyH.cons (o := _) rfl (fun K hK => ?_) ?_
                  · go_simp
                    have hs := below_new v3 (.cells #[.int .i64 l[j].client, .int .i64 l[j].number, .string ⟨l[j].op.toArray⟩] 42)
                    have hnw := World.news_of_block (cs := #[.int .i64 l[j].client, .int .i64 l[j].number, .string ⟨l[j].op.toArray⟩]) (t := 42) (fr := (0, 0)) (heap_alloc_new v3 (.cells #[.int .i64 l[j].client, .int .i64 l[j].number, .string ⟨l[j].op.toArray⟩] 42))
                    have hlw : v3.heap.size < (v3.alloc (.cells #[.int .i64 l[j].client, .int .i64 l[j].number, .string ⟨l[j].op.toArray⟩] 42)).heap.size := by simp
                    generalize v3.alloc (.cells #[.int .i64 l[j].client, .int .i64 l[j].number, .string ⟨l[j].op.toArray⟩] 42) = v4 at hs hnw hlw ⊢
                    have hb4 := bon hb3 hs
                    have oc4 := ownsRow_below oc3 hs
                    have ht4 := ht3.below hs
                    clear hs
                    generalize hgq : v3.heap.size = gn at hnw hlw ⊢
                    have hn4 := hnw
                    have gn4 := hlw
                    clear hnw hlw
                    clear hgq
                    refine hK.out _ _ ?_ (fun hHeld => ?_)
                    · exact HS.out _ hb4
                    clear hK K
                    try simp only [Act.put, List.setIfInBounds_toArray, List.set_cons_zero, List.set_cons_succ]
                    refine wpAnyH_ready (rs := [9]) (by kernel_rfl) (by simp) ?_
                    refine AllReadyH.cons (o := _) rfl (fun K hK => ?_) ?_
                    · refine step_append_lies _ (by rfl) _ _ _ (by rfl) w5.heap.size 42 i0 _ 3 32 Tryd.underlying22 HI.out HZ0.out HZ1.out HZ2.out rfl (by decide) _ _ _ (by rfl) oc4 _ 1 1 [.int .i64 l[j].client, .int .i64 l[j].number, .string ⟨l[j].op.toArray⟩] (by rfl) (by rfl) hn4 (by simp [Value.oneCell']) Nat.one_pos hmx hby hb4.size _ rfl ?_
                      intro gg cap2 v5 hown hgrow hat hlt1
                      have hb5 := below_grown hb4 hb4.size hgrow (fun g hg => (oc4.lt g hg).1)
                      have oc5 := hown
                      have ht5 := O3.grown ht4 hgrow (fun h0 => hgt (by simpa [Value.ownBlock] using h0))
                      have hgt2 : gt ≠ gg := fun h0 => by
                        rcases hat with h9 | h9
                        · simp only [Value.ownBlock, Option.some.injEq] at h9; omega
                        · have h8 := ht4.lt; omega
                      clear hgt
                      have hgt := hgt2
                      clear hgt2
                      clear hown hgrow hat hlt1
                      refine hK.out _ _ ?_ (fun hHeld => ?_)
                      · exact HS.out _ hb5
                      clear hK K
                      try simp only [Act.put, List.setIfInBounds_toArray]
                      refine wpAnyH_take (i := 10) (oi := _) (v := ?_) rfl (by kernel_rfl) (by kernel_rfl) (by kernel_rfl) (fun _ _ _ h => h) (Or.inl ⟨by rfl, ?_⟩) (by assumption) ?_
                      rotate_left
                      · intro w hSw; (try dsimp only at hSw); go_simp; try with_reducible rfl
                      try simp only [Act.put]
                      refine wpAnyH_ready (rs := [12]) (by kernel_rfl) (by simp) ?_
                      refine AllReadyH.cons (o := _) rfl (fun K hK => ?_) ?_
                      · have htk := ht5
                        obtain ⟨tl, t0, t1, t2, t3, t4, t5⟩ := htk
                        go_simp
                        have hb6 := ((hb5.setCell (p := ⟨gt, 0, none⟩) (by show w5.heap.size ≤ gt; exact hgtl) (.int .i64 1)).setCell (p := ⟨gt, 1, none⟩) (by show w5.heap.size ≤ gt; exact hgtl) (.int .i64 0)).setCell (p := ⟨gt, 2, none⟩) (by show w5.heap.size ≤ gt; exact hgtl) (.slice (some ⟨gg, 0, none⟩) (x.l.length + 1) cap2)
                        refine hK.out _ _ ?_ (fun hHeld => ?_)
                        · exact HS.out _ hb6
                        clear hK K
                        try simp only [Act.put, List.setIfInBounds_toArray, List.set_cons_zero, List.set_cons_succ]
                        refine wpAnyH_done (by kernel_rfl) ?_ _
                        refine NoPanic.normal ?_
                        go_wp2_with fail
                        go_meet
                        exact ⟨gt, gg, cap2, rfl, ((ht5.set0 (.int .i64 1)).set1 (.int .i64 0)).set2 (.slice (some ⟨gg, 0, none⟩) (x.l.length + 1) cap2), ownsRow_apart (ownsRow_apart (ownsRow_apart oc5 ⟨gt, 0, none⟩ (.int .i64 1) (by omega) hgt.symm) ⟨gt, 1, none⟩ (.int .i64 0) (by omega) hgt.symm) ⟨gt, 2, none⟩ (.slice (some ⟨gg, 0, none⟩) (x.l.length + 1) cap2) (by omega) hgt.symm, hb6⟩
                      exact AllReadyH.nil
                    exact AllReadyH.nil
                  exact AllReadyH.nil
                refine AllReadyH.cons (o := _) rfl (fun K hK => ?_) ?_
                · go_simp
                  have hs := below_new v2 (.cells #[.int .i64 l[j].client, .int .i64 l[j].number, .string ⟨l[j].op.toArray⟩] 42)
                  have hnw := World.news_of_block (cs := #[.int .i64 l[j].client, .int .i64 l[j].number, .string ⟨l[j].op.toArray⟩]) (t := 42) (fr := (0, 0)) (heap_alloc_new v2 (.cells #[.int .i64 l[j].client, .int .i64 l[j].number, .string ⟨l[j].op.toArray⟩] 42))
                  have hlw : v2.heap.size < (v2.alloc (.cells #[.int .i64 l[j].client, .int .i64 l[j].number, .string ⟨l[j].op.toArray⟩] 42)).heap.size := by simp
                  generalize v2.alloc (.cells #[.int .i64 l[j].client, .int .i64 l[j].number, .string ⟨l[j].op.toArray⟩] 42) = v3 at hs hnw hlw ⊢
                  have hb3 := bon hb2 hs
                  have oc3 := ownsRow_below oc2 hs
                  have ht3 := ht2.below hs
                  clear hs
                  generalize hgq : v2.heap.size = gn at hnw hlw ⊢
                  have hn3 := hnw
                  have gn3 := hlw
                  clear hnw hlw
                  have hge : gn ≠ ge := fun h0 => by have h8 := (oc2.lt ge rfl).2; omega
                  clear hgq
                  refine hK.out _ _ ?_ (fun hHeld => ?_)
                  · exact HS.out _ hb3
                  clear hK K
                  try simp only [Act.put, List.setIfInBounds_toArray, List.set_cons_zero, List.set_cons_succ]
                  refine wpAnyH_ready (rs := [3]) (by kernel_rfl) (by simp) ?_
                  refine AllReadyH.cons (o := _) rfl (fun K hK => ?_) ?_
                  · refine step_append_lies _ (by rfl) _ _ _ (by rfl) w5.heap.size 42 i0 _ 3 32 Tryd.underlying22 HI.out HZ0.out HZ1.out HZ2.out rfl (by decide) _ _ _ (by rfl) oc3 _ x.l.length x.c (x.l.flatMap rqC) (by rfl) HXlen.out (HNews.out _ hb3) HOne.out hxpos hmx0 hby0 hb3.size _ rfl ?_
                    intro gq cap1 v4 hown hgrow hat hlt1
                    have hb4 := below_grown hb3 hb3.size hgrow (fun g hg => (oc3.lt g hg).1)
                    simp only [Nat.zero_add, List.nil_append] at hown
                    have oc4 := hown
                    have gnne : some gn ≠ (Value.slice (some ⟨ge, 0, none⟩) 0 0).ownBlock := fun h0 => by simp only [Value.ownBlock, Option.some.injEq] at h0; exact hge h0
                    have gn4 := Nat.lt_of_lt_of_le gn3 hgrow.size
                    have hn4 : ∀ i u, #[.int .i64 l[j].client, .int .i64 l[j].number, .string ⟨l[j].op.toArray⟩].toList[i]? = some u → v4.cell? ((⟨gn, 0, none⟩ : Addr).add i) = some u := fun i u hu => by have h9 := hn3 i u hu; rw [add_off] at h9 ⊢; exact (hgrow.cell_far ⟨gn, 0 + i, none⟩ gn3 gnne).trans h9
                    have ht4 := O3.grown ht3 hgrow (fun h0 => hgt (by simpa [Value.ownBlock] using h0))
                    have hgt2 : gt ≠ gq := fun h0 => by
                      rcases hat with h9 | h9
                      · simp only [Value.ownBlock, Option.some.injEq] at h9; omega
                      · have h8 := ht3.lt; omega
                    clear hgt
                    have hgt := hgt2
                    clear hgt2
                    clear hown hgrow hat hlt1
                    try simp only [Nat.zero_add]
                    refine hK.out _ _ ?_ (fun hHeld => ?_)
                    · exact HS.out _ hb4
                    clear hK K
                    try simp only [Act.put, List.setIfInBounds_toArray]
                    refine wpAnyH_ready (rs := [9]) (by kernel_rfl) (by simp) ?_
                    refine AllReadyH.cons (o := _) rfl (fun K hK => ?_) ?_
                    · refine step_append_lies _ (by rfl) _ _ _ (by rfl) w5.heap.size 42 i0 _ 3 32 Tryd.underlying22 HI.out HZ0.out HZ1.out HZ2.out rfl (by decide) _ _ _ (by rfl) oc4 _ 1 1 [.int .i64 l[j].client, .int .i64 l[j].number, .string ⟨l[j].op.toArray⟩] (by rfl) (by rfl) hn4 (by simp [Value.oneCell']) Nat.one_pos hmx hby hb4.size _ rfl ?_
                      intro gg cap2 v5 hown hgrow hat hlt1
                      have hb5 := below_grown hb4 hb4.size hgrow (fun g hg => (oc4.lt g hg).1)
                      have oc5 := hown
                      have ht5 := O3.grown ht4 hgrow (fun h0 => hgt (by simpa [Value.ownBlock] using h0))
                      have hgt2 : gt ≠ gg := fun h0 => by
                        rcases hat with h9 | h9
                        · simp only [Value.ownBlock, Option.some.injEq] at h9; omega
                        · have h8 := ht4.lt; omega
                      clear hgt
                      have hgt := hgt2
                      clear hgt2
                      clear hown hgrow hat hlt1
                      refine hK.out _ _ ?_ (fun hHeld => ?_)
                      · exact HS.out _ hb5
                      clear hK K
                      try simp only [Act.put]
                      refine wpAnyH_take (i := 10) (oi := _) (v := ?_) rfl (by kernel_rfl) (by kernel_rfl) (by kernel_rfl) (fun _ _ _ h => h) (Or.inl ⟨by rfl, ?_⟩) (by assumption) ?_
                      rotate_left
                      · intro w hSw; (try dsimp only at hSw); go_simp; try with_reducible rfl
                      try simp only [Act.put]
                      refine wpAnyH_ready (rs := [12]) (by kernel_rfl) (by simp) ?_
                      refine AllReadyH.cons (o := _) rfl (fun K hK => ?_) ?_
                      · have htk := ht5
                        obtain ⟨tl, t0, t1, t2, t3, t4, t5⟩ := htk
                        go_simp
                        have hb6 := ((hb5.setCell (p := ⟨gt, 0, none⟩) (by show w5.heap.size ≤ gt; exact hgtl) (.int .i64 1)).setCell (p := ⟨gt, 1, none⟩) (by show w5.heap.size ≤ gt; exact hgtl) (.int .i64 0)).setCell (p := ⟨gt, 2, none⟩) (by show w5.heap.size ≤ gt; exact hgtl) (.slice (some ⟨gg, 0, none⟩) (x.l.length + 1) cap2)
                        refine hK.out _ _ ?_ (fun hHeld => ?_)
                        · exact HS.out _ hb6
                        clear hK K
                        try simp only [Act.put, List.setIfInBounds_toArray, List.set_cons_zero, List.set_cons_succ]
                        refine wpAnyH_done (by kernel_rfl) ?_ _
                        refine NoPanic.normal ?_
                        go_wp2_with fail
                        go_meet
                        exact ⟨gt, gg, cap2, rfl, ((ht5.set0 (.int .i64 1)).set1 (.int .i64 0)).set2 (.slice (some ⟨gg, 0, none⟩) (x.l.length + 1) cap2), ownsRow_apart (ownsRow_apart (ownsRow_apart oc5 ⟨gt, 0, none⟩ (.int .i64 1) (by omega) hgt.symm) ⟨gt, 1, none⟩ (.int .i64 0) (by omega) hgt.symm) ⟨gt, 2, none⟩ (.slice (some ⟨gg, 0, none⟩) (x.l.length + 1) cap2) (by omega) hgt.symm, hb6⟩
                      exact AllReadyH.nil
                    exact AllReadyH.nil
                  exact AllReadyH.nil
                exact AllReadyH.nil
              exact AllReadyH.nil
            refine AllReadyH.cons (o := _) rfl (fun K hK => ?_) ?_
            · go_simp
              have hs := below_new v0 (.cells #[.int .i64 l[j].client, .int .i64 l[j].number, .string ⟨l[j].op.toArray⟩] 42)
              have hnw := World.news_of_block (cs := #[.int .i64 l[j].client, .int .i64 l[j].number, .string ⟨l[j].op.toArray⟩]) (t := 42) (fr := (0, 0)) (heap_alloc_new v0 (.cells #[.int .i64 l[j].client, .int .i64 l[j].number, .string ⟨l[j].op.toArray⟩] 42))
              have hlw : v0.heap.size < (v0.alloc (.cells #[.int .i64 l[j].client, .int .i64 l[j].number, .string ⟨l[j].op.toArray⟩] 42)).heap.size := by simp
              generalize v0.alloc (.cells #[.int .i64 l[j].client, .int .i64 l[j].number, .string ⟨l[j].op.toArray⟩] 42) = v1 at hs hnw hlw ⊢
              have hb1 := bon hb0 hs
              clear hs
              generalize hgq : v0.heap.size = gn at hnw hlw ⊢
              have hn1 := hnw
              have gn1 := hlw
              clear hnw hlw
              clear hgq
              refine hK.out _ _ ?_ (fun hHeld => ?_)
              · exact HS.out _ hb1
              clear hK K
              try simp only [Act.put, List.setIfInBounds_toArray, List.set_cons_zero, List.set_cons_succ]
              refine wpAnyH_ready (rs := [0, 11]) (by kernel_rfl) (by simp) ?_
              refine AllReadyH.cons (o := _) rfl (fun K hK => ?_) ?_
              · go_simp
                have hs := below_new v1 (.cells #[] 42)
                have how := World.ownsRow_lit (base := w5.heap.size) (e := 42) (size := 3) v1 #[] 0 hb1.size (by simp) rfl
                generalize v1.alloc (.cells #[] 42) = v2 at hs how ⊢
                have hb2 := bon hb1 hs
                have gn2 := Nat.lt_of_lt_of_le gn1 (hs).size
                have hn2 : ∀ i u, #[.int .i64 l[j].client, .int .i64 l[j].number, .string ⟨l[j].op.toArray⟩].toList[i]? = some u → v2.cell? ((⟨gn, 0, none⟩ : Addr).add i) = some u := fun i u hu => by have h9 := hn1 i u hu; rw [add_off] at h9 ⊢; exact ((hs).cell (p := ⟨gn, 0 + i, none⟩) gn1).trans h9
                clear hs
                generalize hgq : v1.heap.size = ge at how ⊢
                have oc2 := how
                clear how
                have hge : gn ≠ ge := fun h0 => by have h8 := gn1; omega
                clear hgq
                refine hK.out _ _ ?_ (fun hHeld => ?_)
                · exact HS.out _ hb2
                clear hK K
                try simp only [Act.put, List.setIfInBounds_toArray, List.set_cons_zero, List.set_cons_succ]
                refine wpAnyH_ready (rs := [3, 11]) (by kernel_rfl) (by simp) ?_
                refine AllReadyH.cons (o := _) rfl (fun K hK => ?_) ?_
                · refine step_append_lies _ (by rfl) _ _ _ (by rfl) w5.heap.size 42 i0 _ 3 32 Tryd.underlying22 HI.out HZ0.out HZ1.out HZ2.out rfl (by decide) _ _ _ (by rfl) oc2 _ x.l.length x.c (x.l.flatMap rqC) (by rfl) HXlen.out (HNews.out _ hb2) HOne.out hxpos hmx0 hby0 hb2.size _ rfl ?_
                  intro gq cap1 v3 hown hgrow hat hlt1
                  have hb3 := below_grown hb2 hb2.size hgrow (fun g hg => (oc2.lt g hg).1)
                  simp only [Nat.zero_add, List.nil_append] at hown
                  have oc3 := hown
                  have gnne : some gn ≠ (Value.slice (some ⟨ge, 0, none⟩) 0 0).ownBlock := fun h0 => by simp only [Value.ownBlock, Option.some.injEq] at h0; exact hge h0
                  have gn3 := Nat.lt_of_lt_of_le gn2 hgrow.size
                  have hn3 : ∀ i u, #[.int .i64 l[j].client, .int .i64 l[j].number, .string ⟨l[j].op.toArray⟩].toList[i]? = some u → v3.cell? ((⟨gn, 0, none⟩ : Addr).add i) = some u := fun i u hu => by have h9 := hn2 i u hu; rw [add_off] at h9 ⊢; exact (hgrow.cell_far ⟨gn, 0 + i, none⟩ gn2 gnne).trans h9
                  clear hown hgrow hat hlt1
                  try simp only [Nat.zero_add]
                  refine hK.out _ _ ?_ (fun hHeld => ?_)
                  · exact HS.out _ hb3
                  clear hK K
                  try simp only [Act.put, List.setIfInBounds_toArray]
                  refine wpAnyH_ready (rs := [9, 11]) (by kernel_rfl) (by simp) ?_
                  refine AllReadyH.cons (o := _) rfl (fun K hK => ?_) ?_
                  · refine step_append_lies _ (by rfl) _ _ _ (by rfl) w5.heap.size 42 i0 _ 3 32 Tryd.underlying22 HI.out HZ0.out HZ1.out HZ2.out rfl (by decide) _ _ _ (by rfl) oc3 _ 1 1 [.int .i64 l[j].client, .int .i64 l[j].number, .string ⟨l[j].op.toArray⟩] (by rfl) (by rfl) hn3 (by simp [Value.oneCell']) Nat.one_pos hmx hby hb3.size _ rfl ?_
                    intro gg cap2 v4 hown hgrow hat hlt1
                    have hb4 := below_grown hb3 hb3.size hgrow (fun g hg => (oc3.lt g hg).1)
                    have oc4 := hown
                    clear hown hgrow hat hlt1
                    refine hK.out _ _ ?_ (fun hHeld => ?_)
                    · exact HS.out _ hb4
                    clear hK K
                    try simp only [Act.put]
                    refine wpAnyH_take (i := 10) (oi := _) (v := ?_) rfl (by kernel_rfl) (by kernel_rfl) (by kernel_rfl) (fun _ _ _ h => h) (Or.inl ⟨by rfl, ?_⟩) (by assumption) ?_
                    rotate_left
                    · intro w hSw; (try dsimp only at hSw); go_simp; try with_reducible rfl
                    try simp only [Act.put]
                    refine wpAnyH_ready (rs := [11]) (by kernel_rfl) (by simp) ?_
                    refine AllReadyH.cons (o := _) rfl (fun K hK => ?_) ?_
                    · go_simp
                      have hgtl0 : w5.heap.size ≤ v4.heap.size := hb4.size
                      have hs := below_new v4 (.cells #[.int .i64 0, .int .i64 0, .slice none 0 0] 24)
                      have htw := O3.new v4 (.int .i64 0) (.int .i64 0) (.slice none 0 0) 24
                      have hgw : v4.heap.size ≠ gg := fun h0 => by have h8 := (oc4.lt gg rfl).2; omega
                      generalize v4.alloc (.cells #[.int .i64 0, .int .i64 0, .slice none 0 0] 24) = v5 at hs htw ⊢
                      have hb5 := bon hb4 hs
                      have oc5 := ownsRow_below oc4 hs
                      clear hs
                      generalize v4.heap.size = gt at htw hgtl0 hgw ⊢
                      have hgtl := hgtl0
                      have ht5 := htw
                      clear htw hgtl0
                      have hgt : gt ≠ gg := hgw
                      clear hgw
                      refine hK.out _ _ ?_ (fun hHeld => ?_)
                      · exact HS.out _ hb5
                      clear hK K
                      try simp only [Act.put, List.setIfInBounds_toArray, List.set_cons_zero, List.set_cons_succ]
                      refine wpAnyH_ready (rs := [12]) (by kernel_rfl) (by simp) ?_
                      refine AllReadyH.cons (o := _) rfl (fun K hK => ?_) ?_
                      · have htk := ht5
                        obtain ⟨tl, t0, t1, t2, t3, t4, t5⟩ := htk
                        go_simp
                        have hb6 := ((hb5.setCell (p := ⟨gt, 0, none⟩) (by show w5.heap.size ≤ gt; exact hgtl) (.int .i64 1)).setCell (p := ⟨gt, 1, none⟩) (by show w5.heap.size ≤ gt; exact hgtl) (.int .i64 0)).setCell (p := ⟨gt, 2, none⟩) (by show w5.heap.size ≤ gt; exact hgtl) (.slice (some ⟨gg, 0, none⟩) (x.l.length + 1) cap2)
                        refine hK.out _ _ ?_ (fun hHeld => ?_)
                        · exact HS.out _ hb6
                        clear hK K
                        try simp only [Act.put, List.setIfInBounds_toArray, List.set_cons_zero, List.set_cons_succ]
                        refine wpAnyH_done (by kernel_rfl) ?_ _
                        refine NoPanic.normal ?_
                        go_wp2_with fail
                        go_meet
                        exact ⟨gt, gg, cap2, rfl, ((ht5.set0 (.int .i64 1)).set1 (.int .i64 0)).set2 (.slice (some ⟨gg, 0, none⟩) (x.l.length + 1) cap2), ownsRow_apart (ownsRow_apart (ownsRow_apart oc5 ⟨gt, 0, none⟩ (.int .i64 1) (by omega) hgt.symm) ⟨gt, 1, none⟩ (.int .i64 0) (by omega) hgt.symm) ⟨gt, 2, none⟩ (.slice (some ⟨gg, 0, none⟩) (x.l.length + 1) cap2) (by omega) hgt.symm, hb6⟩
                      exact AllReadyH.nil
                    exact AllReadyH.nil
                  refine AllReadyH.cons (o := _) rfl (fun K hK => ?_) ?_
                  · go_simp
                    have hgtl0 : w5.heap.size ≤ v3.heap.size := hb3.size
                    have hs := below_new v3 (.cells #[.int .i64 0, .int .i64 0, .slice none 0 0] 24)
                    have htw := O3.new v3 (.int .i64 0) (.int .i64 0) (.slice none 0 0) 24
                    have hgw : v3.heap.size ≠ gq := fun h0 => by have h8 := (oc3.lt gq rfl).2; omega
                    generalize v3.alloc (.cells #[.int .i64 0, .int .i64 0, .slice none 0 0] 24) = v4 at hs htw ⊢
                    have hb4 := bon hb3 hs
                    have oc4 := ownsRow_below oc3 hs
                    have gn4 := Nat.lt_of_lt_of_le gn3 (hs).size
                    have hn4 : ∀ i u, #[.int .i64 l[j].client, .int .i64 l[j].number, .string ⟨l[j].op.toArray⟩].toList[i]? = some u → v4.cell? ((⟨gn, 0, none⟩ : Addr).add i) = some u := fun i u hu => by have h9 := hn3 i u hu; rw [add_off] at h9 ⊢; exact ((hs).cell (p := ⟨gn, 0 + i, none⟩) gn3).trans h9
                    clear hs
                    generalize v3.heap.size = gt at htw hgtl0 hgw ⊢
                    have hgtl := hgtl0
                    have ht4 := htw
                    clear htw hgtl0
                    have hgt : gt ≠ gq := hgw
                    clear hgw
                    refine hK.out _ _ ?_ (fun hHeld => ?_)
                    · exact HS.out _ hb4
                    clear hK K
                    try simp only [Act.put, List.setIfInBounds_toArray, List.set_cons_zero, List.set_cons_succ]
                    refine wpAnyH_ready (rs := [9]) (by kernel_rfl) (by simp) ?_
                    refine AllReadyH.cons (o := _) rfl (fun K hK => ?_) ?_
                    · refine step_append_lies _ (by rfl) _ _ _ (by rfl) w5.heap.size 42 i0 _ 3 32 Tryd.underlying22 HI.out HZ0.out HZ1.out HZ2.out rfl (by decide) _ _ _ (by rfl) oc4 _ 1 1 [.int .i64 l[j].client, .int .i64 l[j].number, .string ⟨l[j].op.toArray⟩] (by rfl) (by rfl) hn4 (by simp [Value.oneCell']) Nat.one_pos hmx hby hb4.size _ rfl ?_
                      intro gg cap2 v5 hown hgrow hat hlt1
                      have hb5 := below_grown hb4 hb4.size hgrow (fun g hg => (oc4.lt g hg).1)
                      have oc5 := hown
                      have ht5 := O3.grown ht4 hgrow (fun h0 => hgt (by simpa [Value.ownBlock] using h0))
                      have hgt2 : gt ≠ gg := fun h0 => by
                        rcases hat with h9 | h9
                        · simp only [Value.ownBlock, Option.some.injEq] at h9; omega
                        · have h8 := ht4.lt; omega
                      clear hgt
                      have hgt := hgt2
                      clear hgt2
                      clear hown hgrow hat hlt1
                      refine hK.out _ _ ?_ (fun hHeld => ?_)
                      · exact HS.out _ hb5
                      clear hK K
                      try simp only [Act.put, List.setIfInBounds_toArray]
                      refine wpAnyH_take (i := 10) (oi := _) (v := ?_) rfl (by kernel_rfl) (by kernel_rfl) (by kernel_rfl) (fun _ _ _ h => h) (Or.inl ⟨by rfl, ?_⟩) (by assumption) ?_
                      rotate_left
                      · intro w hSw; (try dsimp only at hSw); go_simp; try with_reducible rfl
                      try simp only [Act.put]
                      refine wpAnyH_ready (rs := [12]) (by kernel_rfl) (by simp) ?_
                      refine AllReadyH.cons (o := _) rfl (fun K hK => ?_) ?_
                      · have htk := ht5
                        obtain ⟨tl, t0, t1, t2, t3, t4, t5⟩ := htk
                        go_simp
                        have hb6 := ((hb5.setCell (p := ⟨gt, 0, none⟩) (by show w5.heap.size ≤ gt; exact hgtl) (.int .i64 1)).setCell (p := ⟨gt, 1, none⟩) (by show w5.heap.size ≤ gt; exact hgtl) (.int .i64 0)).setCell (p := ⟨gt, 2, none⟩) (by show w5.heap.size ≤ gt; exact hgtl) (.slice (some ⟨gg, 0, none⟩) (x.l.length + 1) cap2)
                        refine hK.out _ _ ?_ (fun hHeld => ?_)
                        · exact HS.out _ hb6
                        clear hK K
                        try simp only [Act.put, List.setIfInBounds_toArray, List.set_cons_zero, List.set_cons_succ]
                        refine wpAnyH_done (by kernel_rfl) ?_ _
                        refine NoPanic.normal ?_
                        go_wp2_with fail
                        go_meet
                        exact ⟨gt, gg, cap2, rfl, ((ht5.set0 (.int .i64 1)).set1 (.int .i64 0)).set2 (.slice (some ⟨gg, 0, none⟩) (x.l.length + 1) cap2), ownsRow_apart (ownsRow_apart (ownsRow_apart oc5 ⟨gt, 0, none⟩ (.int .i64 1) (by omega) hgt.symm) ⟨gt, 1, none⟩ (.int .i64 0) (by omega) hgt.symm) ⟨gt, 2, none⟩ (.slice (some ⟨gg, 0, none⟩) (x.l.length + 1) cap2) (by omega) hgt.symm, hb6⟩
                      exact AllReadyH.nil
                    exact AllReadyH.nil
                  exact AllReadyH.nil
                refine AllReadyH.cons (o := _) rfl (fun K hK => ?_) ?_
                · go_simp
                  have hgtl0 : w5.heap.size ≤ v2.heap.size := hb2.size
                  have hs := below_new v2 (.cells #[.int .i64 0, .int .i64 0, .slice none 0 0] 24)
                  have htw := O3.new v2 (.int .i64 0) (.int .i64 0) (.slice none 0 0) 24
                  have hgw : v2.heap.size ≠ ge := fun h0 => by have h8 := (oc2.lt ge rfl).2; omega
                  generalize v2.alloc (.cells #[.int .i64 0, .int .i64 0, .slice none 0 0] 24) = v3 at hs htw ⊢
                  have hb3 := bon hb2 hs
                  have oc3 := ownsRow_below oc2 hs
                  have gn3 := Nat.lt_of_lt_of_le gn2 (hs).size
                  have hn3 : ∀ i u, #[.int .i64 l[j].client, .int .i64 l[j].number, .string ⟨l[j].op.toArray⟩].toList[i]? = some u → v3.cell? ((⟨gn, 0, none⟩ : Addr).add i) = some u := fun i u hu => by have h9 := hn2 i u hu; rw [add_off] at h9 ⊢; exact ((hs).cell (p := ⟨gn, 0 + i, none⟩) gn2).trans h9
                  clear hs
                  generalize v2.heap.size = gt at htw hgtl0 hgw ⊢
                  have hgtl := hgtl0
                  have ht3 := htw
                  clear htw hgtl0
                  have hgt : gt ≠ ge := hgw
                  clear hgw
                  refine hK.out _ _ ?_ (fun hHeld => ?_)
                  · exact HS.out _ hb3
                  clear hK K
                  try simp only [Act.put, List.setIfInBounds_toArray, List.set_cons_zero, List.set_cons_succ]
                  refine wpAnyH_ready (rs := [3]) (by kernel_rfl) (by simp) ?_
                  refine AllReadyH.cons (o := _) rfl (fun K hK => ?_) ?_
                  · refine step_append_lies _ (by rfl) _ _ _ (by rfl) w5.heap.size 42 i0 _ 3 32 Tryd.underlying22 HI.out HZ0.out HZ1.out HZ2.out rfl (by decide) _ _ _ (by rfl) oc3 _ x.l.length x.c (x.l.flatMap rqC) (by rfl) HXlen.out (HNews.out _ hb3) HOne.out hxpos hmx0 hby0 hb3.size _ rfl ?_
                    intro gq cap1 v4 hown hgrow hat hlt1
                    have hb4 := below_grown hb3 hb3.size hgrow (fun g hg => (oc3.lt g hg).1)
                    simp only [Nat.zero_add, List.nil_append] at hown
                    have oc4 := hown
                    have gnne : some gn ≠ (Value.slice (some ⟨ge, 0, none⟩) 0 0).ownBlock := fun h0 => by simp only [Value.ownBlock, Option.some.injEq] at h0; exact hge h0
                    have gn4 := Nat.lt_of_lt_of_le gn3 hgrow.size
                    have hn4 : ∀ i u, #[.int .i64 l[j].client, .int .i64 l[j].number, .string ⟨l[j].op.toArray⟩].toList[i]? = some u → v4.cell? ((⟨gn, 0, none⟩ : Addr).add i) = some u := fun i u hu => by have h9 := hn3 i u hu; rw [add_off] at h9 ⊢; exact (hgrow.cell_far ⟨gn, 0 + i, none⟩ gn3 gnne).trans h9
                    have ht4 := O3.grown ht3 hgrow (fun h0 => hgt (by simpa [Value.ownBlock] using h0))
                    have hgt2 : gt ≠ gq := fun h0 => by
                      rcases hat with h9 | h9
                      · simp only [Value.ownBlock, Option.some.injEq] at h9; omega
                      · have h8 := ht3.lt; omega
                    clear hgt
                    have hgt := hgt2
                    clear hgt2
                    clear hown hgrow hat hlt1
                    try simp only [Nat.zero_add]
                    refine hK.out _ _ ?_ (fun hHeld => ?_)
                    · exact HS.out _ hb4
                    clear hK K
                    try simp only [Act.put, List.setIfInBounds_toArray]
                    refine wpAnyH_ready (rs := [9]) (by kernel_rfl) (by simp) ?_
                    refine AllReadyH.cons (o := _) rfl (fun K hK => ?_) ?_
                    · refine step_append_lies _ (by rfl) _ _ _ (by rfl) w5.heap.size 42 i0 _ 3 32 Tryd.underlying22 HI.out HZ0.out HZ1.out HZ2.out rfl (by decide) _ _ _ (by rfl) oc4 _ 1 1 [.int .i64 l[j].client, .int .i64 l[j].number, .string ⟨l[j].op.toArray⟩] (by rfl) (by rfl) hn4 (by simp [Value.oneCell']) Nat.one_pos hmx hby hb4.size _ rfl ?_
                      intro gg cap2 v5 hown hgrow hat hlt1
                      have hb5 := below_grown hb4 hb4.size hgrow (fun g hg => (oc4.lt g hg).1)
                      have oc5 := hown
                      have ht5 := O3.grown ht4 hgrow (fun h0 => hgt (by simpa [Value.ownBlock] using h0))
                      have hgt2 : gt ≠ gg := fun h0 => by
                        rcases hat with h9 | h9
                        · simp only [Value.ownBlock, Option.some.injEq] at h9; omega
                        · have h8 := ht4.lt; omega
                      clear hgt
                      have hgt := hgt2
                      clear hgt2
                      clear hown hgrow hat hlt1
                      refine hK.out _ _ ?_ (fun hHeld => ?_)
                      · exact HS.out _ hb5
                      clear hK K
                      try simp only [Act.put]
                      refine wpAnyH_take (i := 10) (oi := _) (v := ?_) rfl (by kernel_rfl) (by kernel_rfl) (by kernel_rfl) (fun _ _ _ h => h) (Or.inl ⟨by rfl, ?_⟩) (by assumption) ?_
                      rotate_left
                      · intro w hSw; (try dsimp only at hSw); go_simp; try with_reducible rfl
                      try simp only [Act.put]
                      refine wpAnyH_ready (rs := [12]) (by kernel_rfl) (by simp) ?_
                      refine AllReadyH.cons (o := _) rfl (fun K hK => ?_) ?_
                      · have htk := ht5
                        obtain ⟨tl, t0, t1, t2, t3, t4, t5⟩ := htk
                        go_simp
                        have hb6 := ((hb5.setCell (p := ⟨gt, 0, none⟩) (by show w5.heap.size ≤ gt; exact hgtl) (.int .i64 1)).setCell (p := ⟨gt, 1, none⟩) (by show w5.heap.size ≤ gt; exact hgtl) (.int .i64 0)).setCell (p := ⟨gt, 2, none⟩) (by show w5.heap.size ≤ gt; exact hgtl) (.slice (some ⟨gg, 0, none⟩) (x.l.length + 1) cap2)
                        refine hK.out _ _ ?_ (fun hHeld => ?_)
                        · exact HS.out _ hb6
                        clear hK K
                        try simp only [Act.put, List.setIfInBounds_toArray, List.set_cons_zero, List.set_cons_succ]
                        refine wpAnyH_done (by kernel_rfl) ?_ _
                        refine NoPanic.normal ?_
                        go_wp2_with fail
                        go_meet
                        exact ⟨gt, gg, cap2, rfl, ((ht5.set0 (.int .i64 1)).set1 (.int .i64 0)).set2 (.slice (some ⟨gg, 0, none⟩) (x.l.length + 1) cap2), ownsRow_apart (ownsRow_apart (ownsRow_apart oc5 ⟨gt, 0, none⟩ (.int .i64 1) (by omega) hgt.symm) ⟨gt, 1, none⟩ (.int .i64 0) (by omega) hgt.symm) ⟨gt, 2, none⟩ (.slice (some ⟨gg, 0, none⟩) (x.l.length + 1) cap2) (by omega) hgt.symm, hb6⟩
                      exact AllReadyH.nil
                    exact AllReadyH.nil
                  exact AllReadyH.nil
                exact AllReadyH.nil
              refine AllReadyH.cons (o := _) rfl (fun K hK => ?_) ?_
              · go_simp
                have hgtl0 : w5.heap.size ≤ v1.heap.size := hb1.size
                have hs := below_new v1 (.cells #[.int .i64 0, .int .i64 0, .slice none 0 0] 24)
                have htw := O3.new v1 (.int .i64 0) (.int .i64 0) (.slice none 0 0) 24
                generalize v1.alloc (.cells #[.int .i64 0, .int .i64 0, .slice none 0 0] 24) = v2 at hs htw ⊢
                have hb2 := bon hb1 hs
                have gn2 := Nat.lt_of_lt_of_le gn1 (hs).size
                have hn2 : ∀ i u, #[.int .i64 l[j].client, .int .i64 l[j].number, .string ⟨l[j].op.toArray⟩].toList[i]? = some u → v2.cell? ((⟨gn, 0, none⟩ : Addr).add i) = some u := fun i u hu => by have h9 := hn1 i u hu; rw [add_off] at h9 ⊢; exact ((hs).cell (p := ⟨gn, 0 + i, none⟩) gn1).trans h9
                clear hs
                generalize v1.heap.size = gt at htw hgtl0 ⊢
                have hgtl := hgtl0
                have ht2 := htw
                clear htw hgtl0
                refine hK.out _ _ ?_ (fun hHeld => ?_)
                · exact HS.out _ hb2
                clear hK K
                try simp only [Act.put, List.setIfInBounds_toArray, List.set_cons_zero, List.set_cons_succ]
                refine wpAnyH_ready (rs := [0]) (by kernel_rfl) (by simp) ?_
                refine AllReadyH.cons (o := _) rfl (fun K hK => ?_) ?_
                · go_simp
                  have hs := below_new v2 (.cells #[] 42)
                  have how := World.ownsRow_lit (base := w5.heap.size) (e := 42) (size := 3) v2 #[] 0 hb2.size (by simp) rfl
                  generalize v2.alloc (.cells #[] 42) = v3 at hs how ⊢
                  have hb3 := bon hb2 hs
                  have gn3 := Nat.lt_of_lt_of_le gn2 (hs).size
                  have hn3 : ∀ i u, #[.int .i64 l[j].client, .int .i64 l[j].number, .string ⟨l[j].op.toArray⟩].toList[i]? = some u → v3.cell? ((⟨gn, 0, none⟩ : Addr).add i) = some u := fun i u hu => by have h9 := hn2 i u hu; rw [add_off] at h9 ⊢; exact ((hs).cell (p := ⟨gn, 0 + i, none⟩) gn2).trans h9
                  have ht3 := ht2.below hs
                  have hgw : gt ≠ v2.heap.size := fun h0 => by have h8 := ht2.lt; omega
                  clear hs
                  generalize hgq : v2.heap.size = ge at how hgw ⊢
                  have oc3 := how
                  clear how
                  have hgt : gt ≠ ge := hgw
                  clear hgw
                  have hge : gn ≠ ge := fun h0 => by have h8 := gn2; omega
                  clear hgq
                  refine hK.out _ _ ?_ (fun hHeld => ?_)
                  · exact HS.out _ hb3
                  clear hK K
                  try simp only [Act.put, List.setIfInBounds_toArray, List.set_cons_zero, List.set_cons_succ]
                  refine wpAnyH_ready (rs := [3]) (by kernel_rfl) (by simp) ?_
                  refine AllReadyH.cons (o := _) rfl (fun K hK => ?_) ?_
                  · refine step_append_lies _ (by rfl) _ _ _ (by rfl) w5.heap.size 42 i0 _ 3 32 Tryd.underlying22 HI.out HZ0.out HZ1.out HZ2.out rfl (by decide) _ _ _ (by rfl) oc3 _ x.l.length x.c (x.l.flatMap rqC) (by rfl) HXlen.out (HNews.out _ hb3) HOne.out hxpos hmx0 hby0 hb3.size _ rfl ?_
                    intro gq cap1 v4 hown hgrow hat hlt1
                    have hb4 := below_grown hb3 hb3.size hgrow (fun g hg => (oc3.lt g hg).1)
                    simp only [Nat.zero_add, List.nil_append] at hown
                    have oc4 := hown
                    have gnne : some gn ≠ (Value.slice (some ⟨ge, 0, none⟩) 0 0).ownBlock := fun h0 => by simp only [Value.ownBlock, Option.some.injEq] at h0; exact hge h0
                    have gn4 := Nat.lt_of_lt_of_le gn3 hgrow.size
                    have hn4 : ∀ i u, #[.int .i64 l[j].client, .int .i64 l[j].number, .string ⟨l[j].op.toArray⟩].toList[i]? = some u → v4.cell? ((⟨gn, 0, none⟩ : Addr).add i) = some u := fun i u hu => by have h9 := hn3 i u hu; rw [add_off] at h9 ⊢; exact (hgrow.cell_far ⟨gn, 0 + i, none⟩ gn3 gnne).trans h9
                    have ht4 := O3.grown ht3 hgrow (fun h0 => hgt (by simpa [Value.ownBlock] using h0))
                    have hgt2 : gt ≠ gq := fun h0 => by
                      rcases hat with h9 | h9
                      · simp only [Value.ownBlock, Option.some.injEq] at h9; omega
                      · have h8 := ht3.lt; omega
                    clear hgt
                    have hgt := hgt2
                    clear hgt2
                    clear hown hgrow hat hlt1
                    try simp only [Nat.zero_add]
                    refine hK.out _ _ ?_ (fun hHeld => ?_)
                    · exact HS.out _ hb4
                    clear hK K
                    try simp only [Act.put, List.setIfInBounds_toArray]
                    refine wpAnyH_ready (rs := [9]) (by kernel_rfl) (by simp) ?_
                    refine AllReadyH.cons (o := _) rfl (fun K hK => ?_) ?_
                    · refine step_append_lies _ (by rfl) _ _ _ (by rfl) w5.heap.size 42 i0 _ 3 32 Tryd.underlying22 HI.out HZ0.out HZ1.out HZ2.out rfl (by decide) _ _ _ (by rfl) oc4 _ 1 1 [.int .i64 l[j].client, .int .i64 l[j].number, .string ⟨l[j].op.toArray⟩] (by rfl) (by rfl) hn4 (by simp [Value.oneCell']) Nat.one_pos hmx hby hb4.size _ rfl ?_
                      intro gg cap2 v5 hown hgrow hat hlt1
                      have hb5 := below_grown hb4 hb4.size hgrow (fun g hg => (oc4.lt g hg).1)
                      have oc5 := hown
                      have ht5 := O3.grown ht4 hgrow (fun h0 => hgt (by simpa [Value.ownBlock] using h0))
                      have hgt2 : gt ≠ gg := fun h0 => by
                        rcases hat with h9 | h9
                        · simp only [Value.ownBlock, Option.some.injEq] at h9; omega
                        · have h8 := ht4.lt; omega
                      clear hgt
                      have hgt := hgt2
                      clear hgt2
                      clear hown hgrow hat hlt1
                      refine hK.out _ _ ?_ (fun hHeld => ?_)
                      · exact HS.out _ hb5
                      clear hK K
                      try simp only [Act.put]
                      refine wpAnyH_take (i := 10) (oi := _) (v := ?_) rfl (by kernel_rfl) (by kernel_rfl) (by kernel_rfl) (fun _ _ _ h => h) (Or.inl ⟨by rfl, ?_⟩) (by assumption) ?_
                      rotate_left
                      · intro w hSw; (try dsimp only at hSw); go_simp; try with_reducible rfl
                      try simp only [Act.put]
                      refine wpAnyH_ready (rs := [12]) (by kernel_rfl) (by simp) ?_
                      refine AllReadyH.cons (o := _) rfl (fun K hK => ?_) ?_
                      · have htk := ht5
                        obtain ⟨tl, t0, t1, t2, t3, t4, t5⟩ := htk
                        go_simp
                        have hb6 := ((hb5.setCell (p := ⟨gt, 0, none⟩) (by show w5.heap.size ≤ gt; exact hgtl) (.int .i64 1)).setCell (p := ⟨gt, 1, none⟩) (by show w5.heap.size ≤ gt; exact hgtl) (.int .i64 0)).setCell (p := ⟨gt, 2, none⟩) (by show w5.heap.size ≤ gt; exact hgtl) (.slice (some ⟨gg, 0, none⟩) (x.l.length + 1) cap2)
                        refine hK.out _ _ ?_ (fun hHeld => ?_)
                        · exact HS.out _ hb6
                        clear hK K
                        try simp only [Act.put, List.setIfInBounds_toArray, List.set_cons_zero, List.set_cons_succ]
                        refine wpAnyH_done (by kernel_rfl) ?_ _
                        refine NoPanic.normal ?_
                        go_wp2_with fail
                        go_meet
                        exact ⟨gt, gg, cap2, rfl, ((ht5.set0 (.int .i64 1)).set1 (.int .i64 0)).set2 (.slice (some ⟨gg, 0, none⟩) (x.l.length + 1) cap2), ownsRow_apart (ownsRow_apart (ownsRow_apart oc5 ⟨gt, 0, none⟩ (.int .i64 1) (by omega) hgt.symm) ⟨gt, 1, none⟩ (.int .i64 0) (by omega) hgt.symm) ⟨gt, 2, none⟩ (.slice (some ⟨gg, 0, none⟩) (x.l.length + 1) cap2) (by omega) hgt.symm, hb6⟩
                      exact AllReadyH.nil
                    exact AllReadyH.nil
                  exact AllReadyH.nil
                exact AllReadyH.nil
              exact AllReadyH.nil
            refine AllReadyH.cons (o := _) rfl (fun K hK => ?_) ?_
            · go_simp
              have hgtl0 : w5.heap.size ≤ v0.heap.size := hb0.size
              have hs := below_new v0 (.cells #[.int .i64 0, .int .i64 0, .slice none 0 0] 24)
              have htw := O3.new v0 (.int .i64 0) (.int .i64 0) (.slice none 0 0) 24
              generalize v0.alloc (.cells #[.int .i64 0, .int .i64 0, .slice none 0 0] 24) = v1 at hs htw ⊢
              have hb1 := bon hb0 hs
              clear hs
              generalize v0.heap.size = gt at htw hgtl0 ⊢
              have hgtl := hgtl0
              have ht1 := htw
              clear htw hgtl0
              refine hK.out _ _ ?_ (fun hHeld => ?_)
              · exact HS.out _ hb1
              clear hK K
              try simp only [Act.put, List.setIfInBounds_toArray, List.set_cons_zero, List.set_cons_succ]
              refine wpAnyH_ready (rs := [0, 8]) (by kernel_rfl) (by simp) ?_
              refine AllReadyH.cons (o := _) rfl (fun K hK => ?_) ?_
              · go_simp
                have hs := below_new v1 (.cells #[] 42)
                have how := World.ownsRow_lit (base := w5.heap.size) (e := 42) (size := 3) v1 #[] 0 hb1.size (by simp) rfl
                generalize v1.alloc (.cells #[] 42) = v2 at hs how ⊢
                have hb2 := bon hb1 hs
                have ht2 := ht1.below hs
                have hgw : gt ≠ v1.heap.size := fun h0 => by have h8 := ht1.lt; omega
                clear hs
                generalize v1.heap.size = ge at how hgw ⊢
                have oc2 := how
                clear how
                have hgt : gt ≠ ge := hgw
                clear hgw
                refine hK.out _ _ ?_ (fun hHeld => ?_)
                · exact HS.out _ hb2
                clear hK K
                try simp only [Act.put, List.setIfInBounds_toArray, List.set_cons_zero, List.set_cons_succ]
                refine wpAnyH_ready (rs := [3, 8]) (by kernel_rfl) (by simp) ?_
                refine AllReadyH.cons (o := _) rfl (fun K hK => ?_) ?_
                · refine step_append_lies _ (by rfl) _ _ _ (by rfl) w5.heap.size 42 i0 _ 3 32 Tryd.underlying22 HI.out HZ0.out HZ1.out HZ2.out rfl (by decide) _ _ _ (by rfl) oc2 _ x.l.length x.c (x.l.flatMap rqC) (by rfl) HXlen.out (HNews.out _ hb2) HOne.out hxpos hmx0 hby0 hb2.size _ rfl ?_
                  intro gq cap1 v3 hown hgrow hat hlt1
                  have hb3 := below_grown hb2 hb2.size hgrow (fun g hg => (oc2.lt g hg).1)
                  simp only [Nat.zero_add, List.nil_append] at hown
                  have oc3 := hown
                  have ht3 := O3.grown ht2 hgrow (fun h0 => hgt (by simpa [Value.ownBlock] using h0))
                  have hgt2 : gt ≠ gq := fun h0 => by
                    rcases hat with h9 | h9
                    · simp only [Value.ownBlock, Option.some.injEq] at h9; omega
                    · have h8 := ht2.lt; omega
                  clear hgt
                  have hgt := hgt2
                  clear hgt2
                  clear hown hgrow hat hlt1
                  try simp only [Nat.zero_add]
                  refine hK.out _ _ ?_ (fun hHeld => ?_)
                  · exact HS.out _ hb3
                  clear hK K
                  try simp only [Act.put, List.setIfInBounds_toArray]
                  refine wpAnyH_ready (rs := [8]) (by kernel_rfl) (by simp) ?_
                  refine AllReadyH.cons (o := _) rfl (fun K hK => ?_) ?_
                  · go_simp
                    have hs := below_new v3 (.cells #[.int .i64 l[j].client, .int .i64 l[j].number, .string ⟨l[j].op.toArray⟩] 42)
                    have hnw := World.news_of_block (cs := #[.int .i64 l[j].client, .int .i64 l[j].number, .string ⟨l[j].op.toArray⟩]) (t := 42) (fr := (0, 0)) (heap_alloc_new v3 (.cells #[.int .i64 l[j].client, .int .i64 l[j].number, .string ⟨l[j].op.toArray⟩] 42))
                    have hlw : v3.heap.size < (v3.alloc (.cells #[.int .i64 l[j].client, .int .i64 l[j].number, .string ⟨l[j].op.toArray⟩] 42)).heap.size := by simp
                    generalize v3.alloc (.cells #[.int .i64 l[j].client, .int .i64 l[j].number, .string ⟨l[j].op.toArray⟩] 42) = v4 at hs hnw hlw ⊢
                    have hb4 := bon hb3 hs
                    have oc4 := ownsRow_below oc3 hs
                    have ht4 := ht3.below hs
                    clear hs
                    generalize hgq : v3.heap.size = gn at hnw hlw ⊢
                    have hn4 := hnw
                    have gn4 := hlw
                    clear hnw hlw
                    clear hgq
                    refine hK.out _ _ ?_ (fun hHeld => ?_)
                    · exact HS.out _ hb4
                    clear hK K
                    try simp only [Act.put, List.setIfInBounds_toArray, List.set_cons_zero, List.set_cons_succ]
                    refine wpAnyH_ready (rs := [9]) (by kernel_rfl) (by simp) ?_
                    refine AllReadyH.cons (o := _) rfl (fun K hK => ?_) ?_
                    · refine step_append_lies _ (by rfl) _ _ _ (by rfl) w5.heap.size 42 i0 _ 3 32 Tryd.underlying22 HI.out HZ0.out HZ1.out HZ2.out rfl (by decide) _ _ _ (by rfl) oc4 _ 1 1 [.int .i64 l[j].client, .int .i64 l[j].number, .string ⟨l[j].op.toArray⟩] (by rfl) (by rfl) hn4 (by simp [Value.oneCell']) Nat.one_pos hmx hby hb4.size _ rfl ?_
                      intro gg cap2 v5 hown hgrow hat hlt1
                      have hb5 := below_grown hb4 hb4.size hgrow (fun g hg => (oc4.lt g hg).1)
                      have oc5 := hown
                      have ht5 := O3.grown ht4 hgrow (fun h0 => hgt (by simpa [Value.ownBlock] using h0))
                      have hgt2 : gt ≠ gg := fun h0 => by
                        rcases hat with h9 | h9
                        · simp only [Value.ownBlock, Option.some.injEq] at h9; omega
                        · have h8 := ht4.lt; omega
                      clear hgt
                      have hgt := hgt2
                      clear hgt2
                      clear hown hgrow hat hlt1
                      refine hK.out _ _ ?_ (fun hHeld => ?_)
                      · exact HS.out _ hb5
                      clear hK K
                      try simp only [Act.put, List.setIfInBounds_toArray]
                      refine wpAnyH_take (i := 10) (oi := _) (v := ?_) rfl (by kernel_rfl) (by kernel_rfl) (by kernel_rfl) (fun _ _ _ h => h) (Or.inl ⟨by rfl, ?_⟩) (by assumption) ?_
                      rotate_left
                      · intro w hSw; (try dsimp only at hSw); go_simp; try with_reducible rfl
                      try simp only [Act.put]
                      refine wpAnyH_ready (rs := [12]) (by kernel_rfl) (by simp) ?_
                      refine AllReadyH.cons (o := _) rfl (fun K hK => ?_) ?_
                      · have htk := ht5
                        obtain ⟨tl, t0, t1, t2, t3, t4, t5⟩ := htk
                        go_simp
                        have hb6 := ((hb5.setCell (p := ⟨gt, 0, none⟩) (by show w5.heap.size ≤ gt; exact hgtl) (.int .i64 1)).setCell (p := ⟨gt, 1, none⟩) (by show w5.heap.size ≤ gt; exact hgtl) (.int .i64 0)).setCell (p := ⟨gt, 2, none⟩) (by show w5.heap.size ≤ gt; exact hgtl) (.slice (some ⟨gg, 0, none⟩) (x.l.length + 1) cap2)
                        refine hK.out _ _ ?_ (fun hHeld => ?_)
                        · exact HS.out _ hb6
                        clear hK K
                        try simp only [Act.put, List.setIfInBounds_toArray, List.set_cons_zero, List.set_cons_succ]
                        refine wpAnyH_done (by kernel_rfl) ?_ _
                        refine NoPanic.normal ?_
                        go_wp2_with fail
                        go_meet
                        exact ⟨gt, gg, cap2, rfl, ((ht5.set0 (.int .i64 1)).set1 (.int .i64 0)).set2 (.slice (some ⟨gg, 0, none⟩) (x.l.length + 1) cap2), ownsRow_apart (ownsRow_apart (ownsRow_apart oc5 ⟨gt, 0, none⟩ (.int .i64 1) (by omega) hgt.symm) ⟨gt, 1, none⟩ (.int .i64 0) (by omega) hgt.symm) ⟨gt, 2, none⟩ (.slice (some ⟨gg, 0, none⟩) (x.l.length + 1) cap2) (by omega) hgt.symm, hb6⟩
                      exact AllReadyH.nil
                    exact AllReadyH.nil
                  exact AllReadyH.nil
                refine AllReadyH.cons (o := _) rfl (fun K hK => ?_) ?_
                · go_simp
                  have hs := below_new v2 (.cells #[.int .i64 l[j].client, .int .i64 l[j].number, .string ⟨l[j].op.toArray⟩] 42)
                  have hnw := World.news_of_block (cs := #[.int .i64 l[j].client, .int .i64 l[j].number, .string ⟨l[j].op.toArray⟩]) (t := 42) (fr := (0, 0)) (heap_alloc_new v2 (.cells #[.int .i64 l[j].client, .int .i64 l[j].number, .string ⟨l[j].op.toArray⟩] 42))
                  have hlw : v2.heap.size < (v2.alloc (.cells #[.int .i64 l[j].client, .int .i64 l[j].number, .string ⟨l[j].op.toArray⟩] 42)).heap.size := by simp
                  generalize v2.alloc (.cells #[.int .i64 l[j].client, .int .i64 l[j].number, .string ⟨l[j].op.toArray⟩] 42) = v3 at hs hnw hlw ⊢
                  have hb3 := bon hb2 hs
                  have oc3 := ownsRow_below oc2 hs
                  have ht3 := ht2.below hs
                  clear hs
                  generalize hgq : v2.heap.size = gn at hnw hlw ⊢
                  have hn3 := hnw
                  have gn3 := hlw
                  clear hnw hlw
                  have hge : gn ≠ ge := fun h0 => by have h8 := (oc2.lt ge rfl).2; omega
                  clear hgq
                  refine hK.out _ _ ?_ (fun hHeld => ?_)
                  · exact HS.out _ hb3
                  clear hK K
                  try simp only [Act.put, List.setIfInBounds_toArray, List.set_cons_zero, List.set_cons_succ]
                  refine wpAnyH_ready (rs := [3]) (by kernel_rfl) (by simp) ?_
                  refine AllReadyH.cons (o := _) rfl (fun K hK => ?_) ?_
                  · refine step_append_lies _ (by rfl) _ _ _ (by rfl) w5.heap.size 42 i0 _ 3 32 Tryd.underlying22 HI.out HZ0.out HZ1.out HZ2.out rfl (by decide) _ _ _ (by rfl) oc3 _ x.l.length x.c (x.l.flatMap rqC) (by rfl) HXlen.out (HNews.out _ hb3) HOne.out hxpos hmx0 hby0 hb3.size _ rfl ?_
                    intro gq cap1 v4 hown hgrow hat hlt1
                    have hb4 := below_grown hb3 hb3.size hgrow (fun g hg => (oc3.lt g hg).1)
                    simp only [Nat.zero_add, List.nil_append] at hown
                    have oc4 := hown
                    have gnne : some gn ≠ (Value.slice (some ⟨ge, 0, none⟩) 0 0).ownBlock := fun h0 => by simp only [Value.ownBlock, Option.some.injEq] at h0; exact hge h0
                    have gn4 := Nat.lt_of_lt_of_le gn3 hgrow.size
                    have hn4 : ∀ i u, #[.int .i64 l[j].client, .int .i64 l[j].number, .string ⟨l[j].op.toArray⟩].toList[i]? = some u → v4.cell? ((⟨gn, 0, none⟩ : Addr).add i) = some u := fun i u hu => by have h9 := hn3 i u hu; rw [add_off] at h9 ⊢; exact (hgrow.cell_far ⟨gn, 0 + i, none⟩ gn3 gnne).trans h9
                    have ht4 := O3.grown ht3 hgrow (fun h0 => hgt (by simpa [Value.ownBlock] using h0))
                    have hgt2 : gt ≠ gq := fun h0 => by
                      rcases hat with h9 | h9
                      · simp only [Value.ownBlock, Option.some.injEq] at h9; omega
                      · have h8 := ht3.lt; omega
                    clear hgt
                    have hgt := hgt2
                    clear hgt2
                    clear hown hgrow hat hlt1
                    try simp only [Nat.zero_add]
                    refine hK.out _ _ ?_ (fun hHeld => ?_)
                    · exact HS.out _ hb4
                    clear hK K
                    try simp only [Act.put, List.setIfInBounds_toArray]
                    refine wpAnyH_ready (rs := [9]) (by kernel_rfl) (by simp) ?_
                    refine AllReadyH.cons (o := _) rfl (fun K hK => ?_) ?_
                    · refine step_append_lies _ (by rfl) _ _ _ (by rfl) w5.heap.size 42 i0 _ 3 32 Tryd.underlying22 HI.out HZ0.out HZ1.out HZ2.out rfl (by decide) _ _ _ (by rfl) oc4 _ 1 1 [.int .i64 l[j].client, .int .i64 l[j].number, .string ⟨l[j].op.toArray⟩] (by rfl) (by rfl) hn4 (by simp [Value.oneCell']) Nat.one_pos hmx hby hb4.size _ rfl ?_
                      intro gg cap2 v5 hown hgrow hat hlt1
                      have hb5 := below_grown hb4 hb4.size hgrow (fun g hg => (oc4.lt g hg).1)
                      have oc5 := hown
                      have ht5 := O3.grown ht4 hgrow (fun h0 => hgt (by simpa [Value.ownBlock] using h0))
                      have hgt2 : gt ≠ gg := fun h0 => by
                        rcases hat with h9 | h9
                        · simp only [Value.ownBlock, Option.some.injEq] at h9; omega
                        · have h8 := ht4.lt; omega
                      clear hgt
                      have hgt := hgt2
                      clear hgt2
                      clear hown hgrow hat hlt1
                      refine hK.out _ _ ?_ (fun hHeld => ?_)
                      · exact HS.out _ hb5
                      clear hK K
                      try simp only [Act.put]
                      refine wpAnyH_take (i := 10) (oi := _) (v := ?_) rfl (by kernel_rfl) (by kernel_rfl) (by kernel_rfl) (fun _ _ _ h => h) (Or.inl ⟨by rfl, ?_⟩) (by assumption) ?_
                      rotate_left
                      · intro w hSw; (try dsimp only at hSw); go_simp; try with_reducible rfl
                      try simp only [Act.put]
                      refine wpAnyH_ready (rs := [12]) (by kernel_rfl) (by simp) ?_
                      refine AllReadyH.cons (o := _) rfl (fun K hK => ?_) ?_
                      · have htk := ht5
                        obtain ⟨tl, t0, t1, t2, t3, t4, t5⟩ := htk
                        go_simp
                        have hb6 := ((hb5.setCell (p := ⟨gt, 0, none⟩) (by show w5.heap.size ≤ gt; exact hgtl) (.int .i64 1)).setCell (p := ⟨gt, 1, none⟩) (by show w5.heap.size ≤ gt; exact hgtl) (.int .i64 0)).setCell (p := ⟨gt, 2, none⟩) (by show w5.heap.size ≤ gt; exact hgtl) (.slice (some ⟨gg, 0, none⟩) (x.l.length + 1) cap2)
                        refine hK.out _ _ ?_ (fun hHeld => ?_)
                        · exact HS.out _ hb6
                        clear hK K
                        try simp only [Act.put, List.setIfInBounds_toArray, List.set_cons_zero, List.set_cons_succ]
                        refine wpAnyH_done (by kernel_rfl) ?_ _
                        refine NoPanic.normal ?_
                        go_wp2_with fail
                        go_meet
                        exact ⟨gt, gg, cap2, rfl, ((ht5.set0 (.int .i64 1)).set1 (.int .i64 0)).set2 (.slice (some ⟨gg, 0, none⟩) (x.l.length + 1) cap2), ownsRow_apart (ownsRow_apart (ownsRow_apart oc5 ⟨gt, 0, none⟩ (.int .i64 1) (by omega) hgt.symm) ⟨gt, 1, none⟩ (.int .i64 0) (by omega) hgt.symm) ⟨gt, 2, none⟩ (.slice (some ⟨gg, 0, none⟩) (x.l.length + 1) cap2) (by omega) hgt.symm, hb6⟩
                      exact AllReadyH.nil
                    exact AllReadyH.nil
                  exact AllReadyH.nil
                exact AllReadyH.nil
              refine AllReadyH.cons (o := _) rfl (fun K hK => ?_) ?_
              · go_simp
                have hs := below_new v1 (.cells #[.int .i64 l[j].client, .int .i64 l[j].number, .string ⟨l[j].op.toArray⟩] 42)
                have hnw := World.news_of_block (cs := #[.int .i64 l[j].client, .int .i64 l[j].number, .string ⟨l[j].op.toArray⟩]) (t := 42) (fr := (0, 0)) (heap_alloc_new v1 (.cells #[.int .i64 l[j].client, .int .i64 l[j].number, .string ⟨l[j].op.toArray⟩] 42))
                have hlw : v1.heap.size < (v1.alloc (.cells #[.int .i64 l[j].client, .int .i64 l[j].number, .string ⟨l[j].op.toArray⟩] 42)).heap.size := by simp
                generalize v1.alloc (.cells #[.int .i64 l[j].client, .int .i64 l[j].number, .string ⟨l[j].op.toArray⟩] 42) = v2 at hs hnw hlw ⊢
                have hb2 := bon hb1 hs
                have ht2 := ht1.below hs
                clear hs
                generalize hgq : v1.heap.size = gn at hnw hlw ⊢
                have hn2 := hnw
                have gn2 := hlw
                clear hnw hlw
                clear hgq
                refine hK.out _ _ ?_ (fun hHeld => ?_)
                · exact HS.out _ hb2
                clear hK K
                try simp only [Act.put, List.setIfInBounds_toArray, List.set_cons_zero, List.set_cons_succ]
                refine wpAnyH_ready (rs := [0]) (by kernel_rfl) (by simp) ?_
                refine AllReadyH.cons (o := _) rfl (fun K hK => ?_) ?_
                · go_simp
                  have hs := below_new v2 (.cells #[] 42)
                  have how := World.ownsRow_lit (base := w5.heap.size) (e := 42) (size := 3) v2 #[] 0 hb2.size (by simp) rfl
                  generalize v2.alloc (.cells #[] 42) = v3 at hs how ⊢
                  have hb3 := bon hb2 hs
                  have gn3 := Nat.lt_of_lt_of_le gn2 (hs).size
                  have hn3 : ∀ i u, #[.int .i64 l[j].client, .int .i64 l[j].number, .string ⟨l[j].op.toArray⟩].toList[i]? = some u → v3.cell? ((⟨gn, 0, none⟩ : Addr).add i) = some u := fun i u hu => by have h9 := hn2 i u hu; rw [add_off] at h9 ⊢; exact ((hs).cell (p := ⟨gn, 0 + i, none⟩) gn2).trans h9
                  have ht3 := ht2.below hs
                  have hgw : gt ≠ v2.heap.size := fun h0 => by have h8 := ht2.lt; omega
                  clear hs
                  generalize hgq : v2.heap.size = ge at how hgw ⊢
                  have oc3 := how
                  clear how
                  have hgt : gt ≠ ge := hgw
                  clear hgw
                  have hge : gn ≠ ge := fun h0 => by have h8 := gn2; omega
                  clear hgq
                  refine hK.out _ _ ?_ (fun hHeld => ?_)
                  · exact HS.out _ hb3
                  clear hK K
                  try simp only [Act.put, List.setIfInBounds_toArray, List.set_cons_zero, List.set_cons_succ]
                  refine wpAnyH_ready (rs := [3]) (by kernel_rfl) (by simp) ?_
                  refine AllReadyH.cons (o := _) rfl (fun K hK => ?_) ?_
                  · refine step_append_lies _ (by rfl) _ _ _ (by rfl) w5.heap.size 42 i0 _ 3 32 Tryd.underlying22 HI.out HZ0.out HZ1.out HZ2.out rfl (by decide) _ _ _ (by rfl) oc3 _ x.l.length x.c (x.l.flatMap rqC) (by rfl) HXlen.out (HNews.out _ hb3) HOne.out hxpos hmx0 hby0 hb3.size _ rfl ?_
                    intro gq cap1 v4 hown hgrow hat hlt1
                    have hb4 := below_grown hb3 hb3.size hgrow (fun g hg => (oc3.lt g hg).1)
                    simp only [Nat.zero_add, List.nil_append] at hown
                    have oc4 := hown
                    have gnne : some gn ≠ (Value.slice (some ⟨ge, 0, none⟩) 0 0).ownBlock := fun h0 => by simp only [Value.ownBlock, Option.some.injEq] at h0; exact hge h0
                    have gn4 := Nat.lt_of_lt_of_le gn3 hgrow.size
                    have hn4 : ∀ i u, #[.int .i64 l[j].client, .int .i64 l[j].number, .string ⟨l[j].op.toArray⟩].toList[i]? = some u → v4.cell? ((⟨gn, 0, none⟩ : Addr).add i) = some u := fun i u hu => by have h9 := hn3 i u hu; rw [add_off] at h9 ⊢; exact (hgrow.cell_far ⟨gn, 0 + i, none⟩ gn3 gnne).trans h9
                    have ht4 := O3.grown ht3 hgrow (fun h0 => hgt (by simpa [Value.ownBlock] using h0))
                    have hgt2 : gt ≠ gq := fun h0 => by
                      rcases hat with h9 | h9
                      · simp only [Value.ownBlock, Option.some.injEq] at h9; omega
                      · have h8 := ht3.lt; omega
                    clear hgt
                    have hgt := hgt2
                    clear hgt2
                    clear hown hgrow hat hlt1
                    try simp only [Nat.zero_add]
                    refine hK.out _ _ ?_ (fun hHeld => ?_)
                    · exact HS.out _ hb4
                    clear hK K
                    try simp only [Act.put, List.setIfInBounds_toArray]
                    refine wpAnyH_ready (rs := [9]) (by kernel_rfl) (by simp) ?_
                    refine AllReadyH.cons (o := _) rfl (fun K hK => ?_) ?_
                    · refine step_append_lies _ (by rfl) _ _ _ (by rfl) w5.heap.size 42 i0 _ 3 32 Tryd.underlying22 HI.out HZ0.out HZ1.out HZ2.out rfl (by decide) _ _ _ (by rfl) oc4 _ 1 1 [.int .i64 l[j].client, .int .i64 l[j].number, .string ⟨l[j].op.toArray⟩] (by rfl) (by rfl) hn4 (by simp [Value.oneCell']) Nat.one_pos hmx hby hb4.size _ rfl ?_
                      intro gg cap2 v5 hown hgrow hat hlt1
                      have hb5 := below_grown hb4 hb4.size hgrow (fun g hg => (oc4.lt g hg).1)
                      have oc5 := hown
                      have ht5 := O3.grown ht4 hgrow (fun h0 => hgt (by simpa [Value.ownBlock] using h0))
                      have hgt2 : gt ≠ gg := fun h0 => by
                        rcases hat with h9 | h9
                        · simp only [Value.ownBlock, Option.some.injEq] at h9; omega
                        · have h8 := ht4.lt; omega
                      clear hgt
                      have hgt := hgt2
                      clear hgt2
                      clear hown hgrow hat hlt1
                      refine hK.out _ _ ?_ (fun hHeld => ?_)
                      · exact HS.out _ hb5
                      clear hK K
                      try simp only [Act.put]
                      refine wpAnyH_take (i := 10) (oi := _) (v := ?_) rfl (by kernel_rfl) (by kernel_rfl) (by kernel_rfl) (fun _ _ _ h => h) (Or.inl ⟨by rfl, ?_⟩) (by assumption) ?_
                      rotate_left
                      · intro w hSw; (try dsimp only at hSw); go_simp; try with_reducible rfl
                      try simp only [Act.put]
                      refine wpAnyH_ready (rs := [12]) (by kernel_rfl) (by simp) ?_
                      refine AllReadyH.cons (o := _) rfl (fun K hK => ?_) ?_
                      · have htk := ht5
                        obtain ⟨tl, t0, t1, t2, t3, t4, t5⟩ := htk
                        go_simp
                        have hb6 := ((hb5.setCell (p := ⟨gt, 0, none⟩) (by show w5.heap.size ≤ gt; exact hgtl) (.int .i64 1)).setCell (p := ⟨gt, 1, none⟩) (by show w5.heap.size ≤ gt; exact hgtl) (.int .i64 0)).setCell (p := ⟨gt, 2, none⟩) (by show w5.heap.size ≤ gt; exact hgtl) (.slice (some ⟨gg, 0, none⟩) (x.l.length + 1) cap2)
                        refine hK.out _ _ ?_ (fun hHeld => ?_)
                        · exact HS.out _ hb6
                        clear hK K
                        try simp only [Act.put, List.setIfInBounds_toArray, List.set_cons_zero, List.set_cons_succ]
                        refine wpAnyH_done (by kernel_rfl) ?_ _
                        refine NoPanic.normal ?_
                        go_wp2_with fail
                        go_meet
                        exact ⟨gt, gg, cap2, rfl, ((ht5.set0 (.int .i64 1)).set1 (.int .i64 0)).set2 (.slice (some ⟨gg, 0, none⟩) (x.l.length + 1) cap2), ownsRow_apart (ownsRow_apart (ownsRow_apart oc5 ⟨gt, 0, none⟩ (.int .i64 1) (by omega) hgt.symm) ⟨gt, 1, none⟩ (.int .i64 0) (by omega) hgt.symm) ⟨gt, 2, none⟩ (.slice (some ⟨gg, 0, none⟩) (x.l.length + 1) cap2) (by omega) hgt.symm, hb6⟩
                      exact AllReadyH.nil
                    exact AllReadyH.nil
                  exact AllReadyH.nil
                exact AllReadyH.nil
              exact AllReadyH.nil
            exact AllReadyH.nil
          case rest =>
            obtain ⟨gt, gg, cap2, rfl, hot, hmo, hbx⟩ := hcut
            have hm1 : m + 1 ≤ 1000 := Nat.le_trans hbj (Nat.le_trans hj hn)
            have HB40 := Lib.hid (le_big hm1).1
            have HM40 := Lib.hid (le_big hm1).2.1
            have hx9 : x.l.length + 1 ≤ 1000 := Nat.succ_le_succ hx2
            clear hmx hmx0 hby hby0 hm1
            have HOT := Lib.hid hot
            have HB6 := Lib.hid (bon HB5.out hbx)
            have HO6 := Lib.hid (ownsRow_below HO5.out hbx)
            have HBs6 : Hid (∀ y ∈ ini ++ [x], OwnB w1.heap.size wc y) := Lib.hid (fun y hy => OwnB.below (HBs5.out y hy) hbx)
            have hlm : (x.l ++ [l[j]]).length = x.l.length + 1 := by simp
            have HMo : Hid (wc.ownsRow w5.heap.size 42 3 (.slice (some ⟨gg, 0, none⟩) (x.l ++ [l[j]]).length cap2) (x.l ++ [l[j]]).length ((x.l ++ [l[j]]).flatMap rqC)) := Lib.hid (by
              rw [hlm]; simpa [rqC] using hmo)
            have hall : ∀ r ∈ x.l ++ [l[j]], RqB r := fun r hr => by
              rcases List.mem_append.1 hr with h | h
              · exact HXl.out r h
              · simp only [List.mem_cons, List.not_mem_nil, or_false] at h
                subst h; exact HRb.out
            have HAll := Lib.hid hall
            have HVl2 : Hid (Calls Tryd.prog 32 #[.agg #[.int .i64 1, .int .i64 0, .slice (some ⟨gg, 0, none⟩) (x.l.length + 1) cap2]] wc (RetStr (valE ⟨1, 0, x.l ++ [l[j]]⟩) wc)) := Lib.hid (by
              have h9 := refValue_batch 1 0 (x.l ++ [l[j]]) (some ⟨gg, 0, none⟩) cap2 wc (own_in HMo.out (by rw [hlm]; exact (le_big hx9).2.2) (fun r hr => Nat.le_trans (hall r hr).2.2.2.2.2 (by decide))) (by rw [hlm]; exact hx9) hall (by decide) (by decide)
              rwa [hlm] at h9)
            have HFt2 : Hid (fitsB k b (x.l ++ [l[j]]) = (decide (((x.l.length : Int) + 1) ≤ k) && decide (((valE ⟨1, 0, x.l ++ [l[j]]⟩).length : Int) ≤ b))) := Lib.hid (by unfold fitsB; rw [hlm]; push_cast; rfl)
            have hmapn : (ini ++ [x]).map Bt.l ≠ [] := by simp
            have hmapl : ((ini ++ [x]).map Bt.l).getLastD [] = x.l := by simp
            have hmapd : ((ini ++ [x]).map Bt.l).dropLast = ini.map Bt.l := by simp
            have HLeft4 : Hid (bat k b [] l = if fitsB k b (x.l ++ [l[j]]) = true then bat k b (ini.map Bt.l ++ [x.l ++ [l[j]]]) (l.drop (j + 1)) else bat k b ((ini ++ [x]).map Bt.l ++ [[l[j]]]) (l.drop (j + 1))) := Lib.hid (by
              rw [HLeft2.out, hmapl, hmapd]
              by_cases hf : fitsB k b (x.l ++ [l[j]]) = true
              · rw [if_pos hf, if_pos ⟨hmapn, hf⟩]
              · rw [if_neg hf, if_neg (fun h => hf h.2)])
            obtain ⟨tl, t0, t1, t2, _, _, _⟩ := HOT.out
            generalize valE ⟨1, 0, x.l ++ [l[j]]⟩ = v2 at HVl2 HFt2
            clear hot hmo hbx hall hlm hmapn hmapl hmapd
            by_cases hk2 : ((x.l.length : Int) + 1) ≤ k
            · go_wp2_with fail
              refine HVl2.out.mono ?_
              rintro e w7 ⟨rfl, b7⟩
              have HB7 := Lib.hid (bon HB6.out b7)
              have HO7 := Lib.hid (ownsRow_below HO6.out b7)
              have HBs7 : Hid (∀ y ∈ ini ++ [x], OwnB w1.heap.size w7 y) := Lib.hid (fun y hy => OwnB.below (HBs6.out y hy) b7)
              have HT7 := Lib.hid (HOT.out.below b7)
              have HM7 := Lib.hid (ownsRow_base (ownsRow_below HMo.out b7) hz5)
              clear b7 t0 t1 t2
              by_cases hb2 : (v2.length : Int) ≤ b
              · have HLeft5 : Hid (bat k b [] l = bat k b ((ini ++ [(⟨some ⟨gg, 0, none⟩, cap2, x.l ++ [l[j]]⟩ : Bt)]).map Bt.l) (l.drop (j + 1))) := Lib.hid (by rw [HLeft4.out, if_pos (by rw [HFt2.out, decide_eq_true hk2, decide_eq_true hb2]; rfl)]; simp)
                have hs1 := HO7.out.stored (m * 3) (.int .i64 1)
                have hs2 := hs1.1.stored (m * 3 + 1) (.int .i64 0)
                have hs3 := hs2.1.stored (m * 3 + 2) (.slice (some ⟨gg, 0, none⟩) (x.l.length + 1) cap2)
                have HSt := Lib.hid hs3.1
                have HBs8 : Hid (∀ y ∈ ini ++ [(⟨some ⟨gg, 0, none⟩, cap2, x.l ++ [l[j]]⟩ : Bt)], OwnB w1.heap.size (((w7.setCell ⟨og, m * 3, none⟩ (.int .i64 1)).setCell ⟨og, m * 3 + 1, none⟩ (.int .i64 0)).setCell ⟨og, m * 3 + 2, none⟩ (.slice (some ⟨gg, 0, none⟩) (x.l.length + 1) cap2)) y) := Lib.hid (fun y hy => by
                  have hy7 : OwnB w1.heap.size w7 y := by
                    rcases List.mem_append.1 hy with h | h
                    · exact HBs7.out y (by simp [h])
                    · simp only [List.mem_cons, List.not_mem_nil, or_false] at h
                      subst h
                      exact HM7.out
                  exact OwnB.far (OwnB.far (OwnB.far hy7 HO7.out hs1.2) hs1.1 hs2.2) hs2.1 hs3.2)
                have HO8 : Hid ((((w7.setCell ⟨og, m * 3, none⟩ (.int .i64 1)).setCell ⟨og, m * 3 + 1, none⟩ (.int .i64 0)).setCell ⟨og, m * 3 + 2, none⟩ (.slice (some ⟨gg, 0, none⟩) (x.l.length + 1) cap2)).ownsRow w1.heap.size 24 3 (.slice (some ⟨og, 0, none⟩) (m + 1) c3) (m + 1) ((ini ++ [(⟨some ⟨gg, 0, none⟩, cap2, x.l ++ [l[j]]⟩ : Bt)]).flatMap btC)) := Lib.hid (by
                  have h9 := HSt.out
                  have h10 := bt_set3 ini x ⟨some ⟨gg, 0, none⟩, cap2, x.l ++ [l[j]]⟩
                  simp only [List.length_append, List.length_cons, List.length_nil, Nat.zero_add] at h10
                  rw [HM.out] at h9 ⊢
                  rw [h10] at h9
                  exact h9)
                have HB8 := Lib.hid (((HB7.out.setCell (p := ⟨og, m * 3, none⟩) hog (.int .i64 1)).setCell (p := ⟨og, m * 3 + 1, none⟩) hog (.int .i64 0)).setCell (p := ⟨og, m * 3 + 2, none⟩) hog (.slice (some ⟨gg, 0, none⟩) (x.l.length + 1) cap2))
                obtain ⟨tl7, t0, t1, t2, _, _, _⟩ := HT7.out
                have y0 : w7.cell? ⟨og, m * 3, none⟩ = some (.int .i64 1) := by
                  rw [HO7.out.cellAt _ (lt3 m).1, HM.out, ← Nat.add_zero (ini.length * 3), flat_get btC 3 btC_len (ini ++ [x]) ini.length (by simp) 0 (by omega)]; simp [btC]
                have y1 : w7.cell? ⟨og, m * 3 + 1, none⟩ = some (.int .i64 0) := by
                  rw [HO7.out.cellAt _ (lt3 m).2.1, HM.out, flat_get btC 3 btC_len (ini ++ [x]) ini.length (by simp) 1 (by omega)]; simp [btC]
                have y2 : w7.cell? ⟨og, m * 3 + 2, none⟩ = some (.slice x.a x.l.length x.c) := by
                  rw [HO7.out.cellAt _ (lt3 m).2.2, HM.out]; exact bt_get ini x
                have f0 : w7.frozen? ⟨og, m * 3, none⟩ = false := HO7.out.frozenAt _
                have f1 : w7.frozen? ⟨og, m * 3 + 1, none⟩ = false := HO7.out.frozenAt _
                have f2 : w7.frozen? ⟨og, m * 3 + 2, none⟩ = false := HO7.out.frozenAt _
                have hz7 : w1.heap.size ≤ w7.heap.size := HB7.out.size
                clear hs1 hs2 hs3
                go_wp2_with fail
                go_roundw
                case rel =>
                  have hlb : (ini ++ [(⟨some ⟨gg, 0, none⟩, cap2, x.l ++ [l[j]]⟩ : Bt)]).length = m + 1 := by rw [HM.out]; simp
                  refine ⟨j + 1, ini ++ [(⟨some ⟨gg, 0, none⟩, cap2, x.l ++ [l[j]]⟩ : Bt)], some ⟨og, 0, none⟩, c3, by go_num, hlt, by rw [hlb]; exact Nat.le_succ_of_le hbj, by rw [hlb], by rw [hlb]; exact HO8.out, fun y hy => ⟨HBs8.out y hy, ?_, ?_, ?_⟩, HLeft5.out, HB8.out, HB8.out.size⟩
                  · rcases List.mem_append.1 hy with h | h
                    · exact (HBs.out y (by simp [h])).2.1
                    · simp only [List.mem_cons, List.not_mem_nil, or_false] at h
                      subst h
                      show (x.l ++ [l[j]]).length ≤ 999
                      rw [List.length_append]; exact le999 hk2 (by first | exact r2 | exact Int.not_lt.1 r2)
                  · rcases List.mem_append.1 hy with h | h
                    · exact (HBs.out y (by simp [h])).2.2.1
                    · simp only [List.mem_cons, List.not_mem_nil, or_false] at h
                      subst h
                      simp
                  · rcases List.mem_append.1 hy with h | h
                    · exact (HBs.out y (by simp [h])).2.2.2
                    · simp only [List.mem_cons, List.not_mem_nil, or_false] at h
                      subst h
                      exact HAll.out
                case measure => simp [intOf]; first | exact Nat.sub_lt_sub_left hlt (Nat.lt_succ_self j) | omega
              · have HLeft5 : Hid (∀ W, bat k b [] l = bat k b ((ini ++ [x] ++ [btNew W l[j]]).map Bt.l) (l.drop (j + 1))) := Lib.hid (fun W => by rw [HLeft4.out, if_neg (by rw [HFt2.out, decide_eq_false hb2]; simp)]; simp [btNew])
                have hzw : w1.heap.size ≤ w7.heap.size := HB7.out.size
                have a0 := HCC.out w7 HB7.out 0 _ rfl
                have a1 := HCC.out w7 HB7.out 1 _ rfl
                have a2 := HCC.out w7 HB7.out 2 _ rfl
                simp only [Nat.add_zero] at a0
                go_wp2_with (at_builtin; refine wpList_append_own _ rfl _ _ 37 rfl w1.heap.size 24 j0 _ 3 40 Tryd.underlying37 JI.out JZ0.out JZ1.out JZ2.out rfl (by decide) _ _ _ rfl ((HO7.out.alloc _).alloc _) ⟨w7.heap.size + 1, 0, none⟩ 1 1 (btC (btNew w7 l[j])) rfl rfl (cell_new _ _ _ _ (by simp)) (by simp [btC, btNew, Value.oneCell']) HM40.out HB40.out (Nat.le_trans hzw (Nat.le_trans (below_new _ _).size (below_new _ _).size)) ?_)
                intro v' w9 hown' hgrow _
                obtain ⟨A9, c9, hv9⟩ := ownsRow_form hown'
                subst hv9
                have HO9 := Lib.hid hown'
                have HG9 := Lib.hid hgrow
                have HP9 := Lib.hid (push_own (r := l[j]) (bs := ini ++ [x]) (v := .slice (some ⟨og, 0, none⟩) (m + 1) c3) hzw HBs7.out (by rw [HLi.out]; exact HO7.out) hgrow)
                have HB9 := Lib.hid (below_grown (((HB7.out.alloc hzw _).alloc (Nat.le_trans hzw (below_new _ _).size) _)) (Nat.le_trans hzw (Nat.le_trans (below_new _ _).size (below_new _ _).size)) hgrow (fun g hg => by simp [Value.ownBlock] at hg; rw [← hg]; exact hog))
                clear hown' hgrow a0 a1 a2
                go_wp2_with fail
                go_roundw
                case rel =>
                  have hlb : (ini ++ [x] ++ [btNew w7 l[j]]).length = m + 1 + 1 := by rw [List.length_append, HLi.out]; rfl
                  refine ⟨j + 1, ini ++ [x] ++ [btNew w7 l[j]], A9, c9, by go_num, hlt, by rw [hlb]; exact Nat.succ_le_succ hbj, by rw [hlb], by rw [hlb, List.flatMap_append]; have h9 := HO9.out; simpa using h9, fun y hy => ⟨HP9.out y hy, ?_, ?_, ?_⟩, HLeft5.out w7, HB9.out, ?_⟩
                  · rcases List.mem_append.1 hy with h | h
                    · exact (HBs.out y h).2.1
                    · simp only [List.mem_cons, List.not_mem_nil, or_false] at h
                      subst h; simp [btNew]
                  · rcases List.mem_append.1 hy with h | h
                    · exact (HBs.out y h).2.2.1
                    · simp only [List.mem_cons, List.not_mem_nil, or_false] at h
                      subst h; simp [btNew]
                  · rcases List.mem_append.1 hy with h | h
                    · exact (HBs.out y h).2.2.2
                    · simp only [List.mem_cons, List.not_mem_nil, or_false] at h
                      subst h; exact HRn.out
                  · exact HB9.out.size
                case measure => simp [intOf]; first | exact Nat.sub_lt_sub_left hlt (Nat.lt_succ_self j) | omega
            · have HLeft5 : Hid (∀ W, bat k b [] l = bat k b ((ini ++ [x] ++ [btNew W l[j]]).map Bt.l) (l.drop (j + 1))) := Lib.hid (fun W => by rw [HLeft4.out, if_neg (by rw [HFt2.out, decide_eq_false hk2]; simp)]; simp [btNew])
              have hzw : w1.heap.size ≤ wc.heap.size := HB6.out.size
              have a0 := HCC.out wc HB6.out 0 _ rfl
              have a1 := HCC.out wc HB6.out 1 _ rfl
              have a2 := HCC.out wc HB6.out 2 _ rfl
              simp only [Nat.add_zero] at a0
              go_wp2_with (at_builtin; refine wpList_append_own _ rfl _ _ 37 rfl w1.heap.size 24 j0 _ 3 40 Tryd.underlying37 JI.out JZ0.out JZ1.out JZ2.out rfl (by decide) _ _ _ rfl ((HO6.out.alloc _).alloc _) ⟨wc.heap.size + 1, 0, none⟩ 1 1 (btC (btNew wc l[j])) rfl rfl (cell_new _ _ _ _ (by simp)) (by simp [btC, btNew, Value.oneCell']) HM40.out HB40.out (Nat.le_trans hzw (Nat.le_trans (below_new _ _).size (below_new _ _).size)) ?_)
              intro v' w9 hown' hgrow _
              obtain ⟨A9, c9, hv9⟩ := ownsRow_form hown'
              subst hv9
              have HO9 := Lib.hid hown'
              have HG9 := Lib.hid hgrow
              have HP9 := Lib.hid (push_own (r := l[j]) (bs := ini ++ [x]) (v := .slice (some ⟨og, 0, none⟩) (m + 1) c3) hzw HBs6.out (by rw [HLi.out]; exact HO6.out) hgrow)
              have HB9 := Lib.hid (below_grown (((HB6.out.alloc hzw _).alloc (Nat.le_trans hzw (below_new _ _).size) _)) (Nat.le_trans hzw (Nat.le_trans (below_new _ _).size (below_new _ _).size)) hgrow (fun g hg => by simp [Value.ownBlock] at hg; rw [← hg]; exact hog))
              clear hown' hgrow a0 a1 a2
              go_wp2_with fail
              go_roundw
              case rel =>
                have hlb : (ini ++ [x] ++ [btNew wc l[j]]).length = m + 1 + 1 := by rw [List.length_append, HLi.out]; rfl
                refine ⟨j + 1, ini ++ [x] ++ [btNew wc l[j]], A9, c9, by go_num, hlt, by rw [hlb]; exact Nat.succ_le_succ hbj, by rw [hlb], by rw [hlb, List.flatMap_append]; have h9 := HO9.out; simpa using h9, fun y hy => ⟨HP9.out y hy, ?_, ?_, ?_⟩, HLeft5.out wc, HB9.out, ?_⟩
                · rcases List.mem_append.1 hy with h | h
                  · exact (HBs.out y h).2.1
                  · simp only [List.mem_cons, List.not_mem_nil, or_false] at h
                    subst h; simp [btNew]
                · rcases List.mem_append.1 hy with h | h
                  · exact (HBs.out y h).2.2.1
                  · simp only [List.mem_cons, List.not_mem_nil, or_false] at h
                    subst h; simp [btNew]
                · rcases List.mem_append.1 hy with h | h
                  · exact (HBs.out y h).2.2.2
                  · simp only [List.mem_cons, List.not_mem_nil, or_false] at h
                    subst h; exact HRn.out
                · exact HB9.out.size
              case measure => simp [intOf]; first | exact Nat.sub_lt_sub_left hlt (Nat.lt_succ_self j) | omega
    · have HLeft := Lib.hid (HBat.out.trans (by rw [List.drop_eq_nil_of_le (by omega), bat]))
      have HS := Lib.hid (HSome.out _ HLeft.out)
      go_wp2_with fail
      go_ret2
      rw [HS.out.1, HS.out.2]
      exact ret_bt rfl rfl rfl (Rd.own HO.out) (fun x hx => own_in (HBs.out x hx).1 (by have := (HBs.out x hx).2.1; omega) (fun r hr => by have := ((HBs.out x hx).2.2.2 r hr).2.2.2.2.2; omega)) (own_cap HO.out) (bon B1.out HBl.out)
theorem refBatches_any (A : Option Addr) (c : Nat) (l : List Rq) (k b : Int) (w : World) (h : RqIn w A c l) (hn : l.length ≤ 1000) :
    Calls Tryd.prog 24 #[.slice A l.length c, .int .i64 k, .int .i64 b] w (RetBat (batE l k b) (batL l k b) w) := by
  by_cases hok : k < 1 ∨ 8 < k ∨ b < 1 ∨ 2000 < b
  · exact refBatches_range A c l k b w hok
  · by_cases hv : vRqs [] l = 0
    · exact refBatches_main A c l k b w h hn hok hv
    · exact refBatches_invalid A c l k b w h hok hv
end Go.Proofs.YthmoplkleopahaaDoor
