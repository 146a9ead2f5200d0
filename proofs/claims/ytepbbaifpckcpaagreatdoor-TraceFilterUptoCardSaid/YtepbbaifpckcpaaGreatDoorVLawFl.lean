/- The law TraceFilter. -/
import Derived.Test.YtepbbaifpckcpaaGreatDoorVPl
import Derived.Test.YtepbbaifpckcpaaGreatDoorVLawVa
import Derived.Test.YtepbbaifpckcpaaGreatDoorVTu
namespace Go.Proofs.YtepbbaifpckcpaaGreatDoor
open Go.RowKit
def kinds8 : List Int := [1, 2, 3, 4, 5, 6, 7, 8]
theorem filt_all {E : List UInt8 → Bool} {l : List Pt} (h : vTr E l = 0) : filtOf kinds8 l = l := by
 unfold filtOf
 rw [List.filter_eq_self]
 intro x hx
 obtain ⟨k, hk, rfl⟩ := List.getElem_of_mem hx
 have hg : goodAll E l = true := by
  unfold vTr at h
  split at h
  · simp at h
  · split at h
    · assumption
    · simp at h
 unfold goodAll at hg
 rw [List.all_eq_true] at hg
 have h1 := hg k (List.mem_range.2 hk)
 rw [goodFrom_at E l k hk (by omega)] at h1
 have h2 : headOk l[k] = true := by
  unfold goodPt at h1
  simp only [Bool.and_eq_true] at h1
  exact h1.1.1.1.1
 unfold headOk at h2
 simp only [Bool.and_eq_true, decide_eq_true_eq] at h2
 simp only [kinds8, List.mem_cons, List.not_mem_nil, or_false, decide_eq_true_eq]
 omega
theorem filt_mem {ks : List Int} {l : List Pt} {x : Pt} (h : x ∈ filtOf ks l) : x ∈ l := (List.mem_filter.1 h).1
set_option maxRecDepth 100000 in
set_option maxHeartbeats 8000000 in
theorem lawFilter (A B : Option Addr) (c d : Nat) (l : List Pt) (ks : List Int) (w : World) (he : Env w) (hp : PtsIn w A l) (hs : ∀ x ∈ l, x.msg.sz ≤ 16777216) (hn : l.length ≤ 1048576) (hk : Rd w 1 B ks.length (intC ks)) :
    Calls Tryz.prog 5 #[.slice A l.length c, .slice B ks.length d] w (RetBool true w) := by
 have HP := hD hp
 have HK := hD hk
 have hn2 : l.length ≤ 1099511627776 := Nat.le_trans hn (by decide)
 have HA : Hid (∀ w1, Below w.heap.size w w1 → Calls Tryz.prog 10 #[] w1 (RetBool true w1)) := hD (fun w1 hb => awake_any w1 (he.below hb))
 have HFw : Hid (∀ w1, Below w.heap.size w w1 → Calls Tryz.prog 11 #[.slice A l.length c] w1 (RetBool (ptsFew l) w1)) := hD (fun w1 hb => few53_any A c l w1 (hp.below hb) hs hn2)
 have HEnv := hD he
 have HSz := hD hs
 have HB0 := hD (Below.refl w.heap.size w)
 clear he hp hs hk
 go_enter Tryz.func5, Tryz.ntmps5
 go_wp2_with fail
 refine (HA.out _ HB0.out).mono ?_
 rintro e w1 ⟨rfl, b1⟩
 have HB1 := hD (bon HB0.out b1)
 clear b1
 go_wp2_with fail
 refine (HFw.out _ HB1.out).mono ?_
 rintro e w2 ⟨rfl, b2⟩
 have HB2 := hD (bon HB1.out b2)
 clear b2
 cases hq : ptsFew l with
 | false =>
  clear hq
  go_wp2_with fail
  refine (HA.out _ HB2.out).mono ?_
  rintro e w3 ⟨rfl, b3⟩
  have HB3 := hD (bon HB2.out b3)
  clear b3
  go_wp2_with fail
  go_ret
  exact ret_bl rfl HB3.out
 | true =>
  have HT := hD (few_texts hq)
  have HFp : Hid (fewPts l) := hD (fun x hx => ⟨HSz.out x hx, Nat.le_trans (HT.out x hx).1 (by decide)⟩)
  clear hq
  by_cases h10 : 10 < ks.length
  · have t10 : (10 : Int) < (ks.length : Int) := by omega
    clear h10
    go_wp2_with fail
    refine (HA.out _ HB2.out).mono ?_
    rintro e w3 ⟨rfl, b3⟩
    have HB3 := hD (bon HB2.out b3)
    clear b3
    go_wp2_with fail
    go_ret
    exact ret_bl rfl HB3.out
  · have t10 : ¬ ((10 : Int) < (ks.length : Int)) := by omega
    have hkn : ks.length ≤ 1099511627776 := by omega
    clear h10
    go_wp2_with fail
    refine (clonePt_any A c l w2 (HP.out.below HB2.out).1 hn).mono ?_
    rintro e w3 ⟨A3, c3, rfl, hown, hs⟩
    obtain ⟨hp3, -, -⟩ := pts_own hown (HP.out.below HB2.out).2 hs
    have HB3 := hD (bon HB2.out hs)
    have HP4 := hD (hp3.below (below_new w3 (.cells (intC kinds8).toArray 3)))
    have HK4 := hD (rd_new w3 1 8 (intC kinds8) 3 rfl)
    have HB4 := hD (bon HB3.out (below_new w3 (.cells (intC kinds8).toArray 3)))
    clear hs hown hp3
    have HC4 : Hid (Calls Tryz.prog 20 #[.slice A3 l.length c3, .slice (some ⟨w3.heap.size, 0, none⟩) 8 8] (w3.alloc (.cells (intC kinds8).toArray 3)) (RetPts (filtOf kinds8 l) (w3.alloc (.cells (intC kinds8).toArray 3)))) := hD (trFilter_any A3 c3 l (some ⟨w3.heap.size, 0, none⟩) 8 kinds8 _ HP4.out hn HK4.out (by decide))
    clear HP4 HK4
    go_wp2_with fail
    change Calls _ _ _ (w3.alloc (.cells (intC kinds8).toArray 3)) _
    refine HC4.out.mono ?_
    rintro e w5 ⟨A5, c5, rfl, hown, hs⟩
    obtain ⟨hp5, -, -⟩ := pts_own hown (fun x hx => Pt.below (HP.out.2 x (filt_mem hx)) HB4.out) hs
    have HP5 := hD hp5
    have HB5 := hD (bon HB4.out hs)
    have HAll : Hid (vTr entB l = 0 → filtOf kinds8 l = l) := hD (fun h => filt_all h)
    have HG8 : Hid (∀ x ∈ filtOf kinds8 l, x ∈ l) := hD (fun x hx => filt_mem hx)
    have hg8 := filtOf_len kinds8 l
    clear hs hown hp5 HC4
    generalize filtOf kinds8 l = G8 at HP5 HAll HG8 hg8 ⊢
    go_wp2_with fail
    refine (clonePt_any A c l w5 (HP.out.below HB5.out).1 hn).mono ?_
    rintro e w6 ⟨A6, c6, rfl, hown, hs⟩
    obtain ⟨hp6, -, -⟩ := pts_own hown (HP.out.below HB5.out).2 hs
    have HP6 := hD hp6
    have HP5 := hD (HP5.out.below hs)
    have HB6 := hD (bon HB5.out hs)
    clear hs hown hp6
    go_wp2_with fail
    refine (trFilter_any A6 c6 l B d ks w6 HP6.out hn (HK.out.below HB6.out) hkn).mono ?_
    rintro e w7 ⟨A7, c7, rfl, hown, hs⟩
    obtain ⟨hp7, -, -⟩ := pts_own hown (fun x hx => Pt.below (HP.out.2 x (filt_mem hx)) HB6.out) hs
    have HP7 := hD hp7
    have HP5 := hD (HP5.out.below hs)
    have HB7 := hD (bon HB6.out hs)
    clear hs hown hp7 HP6
    go_wp2_with fail
    refine (refFilter_any A c l B d ks w7 (HP.out.below HB7.out) hn (HK.out.below HB7.out) hkn).mono ?_
    rintro e w8 ⟨A8, c8, rfl, hown, hs⟩
    obtain ⟨hp8, -, -⟩ := pts_own hown (fun x hx => Pt.below (HP.out.2 x (filt_mem hx)) HB7.out) hs
    have HP8 := hD hp8
    have HP7 := hD (HP7.out.below hs)
    have HP5 := hD (HP5.out.below hs)
    have HB8 := hD (bon HB7.out hs)
    clear hs hown hp8
    have hf8 := filtOf_len ks l
    have HSame := hD (refSame_any A7 A8 c7 c8 (filtOf ks l) (filtOf ks l) w8 HP7.out HP8.out (fun x hx => HSz.out x (filt_mem hx)) (fun x hx => HSz.out x (filt_mem hx)) (by omega) (by omega))
    rw [samePts_self] at HSame
    clear HP7 HP8
    generalize filtOf ks l = F at HSame hf8 ⊢
    go_wp2_with fail
    refine HSame.out.mono ?_
    rintro e w9 ⟨rfl, hs⟩
    have HP5 := hD (HP5.out.below hs)
    have HB9 := hD (bon HB8.out hs)
    clear hs HSame
    have HE2 : Hid (EntOk 65 entB l w9) := hD (fun x hx _ W _ => refEnt53_any x.text W (Nat.le_trans (HT.out x hx).1 (by decide)))
    go_wp2_with fail
    refine (refValidTr_any A c l w9 entB HE2.out (HP.out.below HB9.out) HFp.out hn2).mono ?_
    rintro e w10 ⟨rfl, hs⟩
    have HP5 := hD (HP5.out.below hs)
    have HB10 := hD (bon HB9.out hs)
    clear hs HE2
    by_cases hv : vTr entB l = 0
    · have v1 : (vTr entB l == 0) = true := by simpa using hv
      have v2 : (vTr entB l != 0) = false := by simp [hv]
      obtain rfl := HAll.out hv
      clear hv HAll HG8
      go_wp2_with fail
      have HSm := hD (refSame_any A5 A c5 c G8 G8 w10 HP5.out (HP.out.below HB10.out) HSz.out HSz.out (by omega) (by omega))
      rw [samePts_self] at HSm
      refine HSm.out.mono ?_
      rintro e w11 ⟨rfl, hs⟩
      have HB11 := hD (bon HB10.out hs)
      clear hs HSm
      go_wp2_with fail
      go_ret
      exact ret_bl rfl HB11.out
    · have v1 : (vTr entB l == 0) = false := by simpa using hv
      have v2 : (vTr entB l != 0) = true := by simpa using hv
      clear hv
      go_wp2_with fail
      go_ret
      exact ret_bl rfl HB10.out
end Go.Proofs.YtepbbaifpckcpaaGreatDoor
