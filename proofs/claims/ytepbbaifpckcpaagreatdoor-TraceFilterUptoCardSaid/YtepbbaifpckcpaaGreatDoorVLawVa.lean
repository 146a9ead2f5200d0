/- The law TraceValid. -/
import Derived.Test.YtepbbaifpckcpaaGreatDoorVPl
import Derived.Test.YtepbbaifpckcpaaGreatDoorVTrR1
import Derived.Test.YtepbbaifpckcpaaGreatDoorVTrVd
import Derived.Test.YtepbbaifpckcpaaGreatDoorVEb
import Derived.Test.YtepbbaifpckcpaaGreatDoorVEe
namespace Go.Proofs.YtepbbaifpckcpaaGreatDoor
open Go.RowKit
noncomputable def entB (s : List UInt8) : Bool := (Q40.decE s).isSome
theorem env40 {w : World} (h : Env w) : Q40.Env w := ⟨h.pow, h.syn, h.rng⟩
set_option maxRecDepth 100000 in
theorem isEntry_any (s : List UInt8) (w : World) (he : Env w) (hs : s.length ≤ 2100) : Calls Tryz.prog 60 #[.string ⟨s.toArray⟩] w (RetBool (entB s) w) := by
 have HD := hD (Q40.decode_any s w (env40 he) hs)
 clear he
 go_enter Tryz.func60, Tryz.ntmps60
 go_wp2_with fail
 refine HD.out.mono ?_
 intro e w2 hd
 unfold Q40.RetDec at hd
 obtain ⟨hb, hd⟩ := hd
 have HB := hD hb
 clear hb HD
 cases hq : Q40.decE s with
 | none =>
  rw [hq] at hd
  subst hd
  have HF : Hid (entB s = false) := hD (by unfold entB; rw [hq]; rfl)
  clear hq
  go_wp2_with fail
  go_ret
  exact ret_bl HF.out (bon HB.out (below_new _ _))
 | some x =>
  rw [hq] at hd
  obtain ⟨A, c, rfl, -⟩ := hd
  have HF : Hid (entB s = true) := hD (by unfold entB; rw [hq]; rfl)
  clear hq
  go_wp2_with fail
  go_ret
  exact ret_bl HF.out (bon HB.out (below_new _ _))
set_option maxRecDepth 100000 in
theorem refEnt53_any (s : List UInt8) (w : World) (hs : s.length ≤ 1048576) : Calls Tryz.prog 65 #[.string ⟨s.toArray⟩] w (RetBool (entB s) w) := by
 have HD := hD (Q40.refDecode_any s w hs)
 go_enter Tryz.func65, Tryz.ntmps65
 go_wp2_with fail
 refine HD.out.mono ?_
 intro e w2 hd
 unfold Q40.RetDec at hd
 obtain ⟨hb, hd⟩ := hd
 have HB := hD hb
 clear hb HD
 cases hq : Q40.decE s with
 | none =>
  rw [hq] at hd
  subst hd
  have HF : Hid (entB s = false) := hD (by unfold entB; rw [hq]; rfl)
  clear hq
  go_wp2_with fail
  go_ret
  exact ret_bl HF.out (bon HB.out (below_new _ _))
 | some x =>
  rw [hq] at hd
  obtain ⟨A, c, rfl, -⟩ := hd
  have HF : Hid (entB s = true) := hD (by unfold entB; rw [hq]; rfl)
  clear hq
  go_wp2_with fail
  go_ret
  exact ret_bl HF.out (bon HB.out (below_new _ _))
theorem few_texts {l : List Pt} (h : ptsFew l = true) : ∀ x ∈ l, x.text.length ≤ 2100 ∧ x.result.length ≤ 500 := fun x hx => by
 unfold ptsFew at h
 rw [Bool.and_eq_true, List.all_eq_true] at h
 have h1 := h.1 x hx
 simp only [ptFew, Bool.and_eq_true, decide_eq_true_eq] at h1
 exact h1.1
set_option maxRecDepth 100000 in
set_option maxHeartbeats 4000000 in
theorem lawTrValid (A : Option Addr) (c : Nat) (l : List Pt) (w : World) (he : Env w) (hp : PtsIn w A l) (hs : ∀ x ∈ l, x.msg.sz ≤ 16777216) (hn : l.length ≤ 1048576) :
    Calls Tryz.prog 3 #[.slice A l.length c] w (RetBool true w) := by
 have HP := hD hp
 have hn2 : l.length ≤ 1099511627776 := Nat.le_trans hn (by decide)
 have HA : Hid (∀ w1, Below w.heap.size w w1 → Calls Tryz.prog 10 #[] w1 (RetBool true w1)) := hD (fun w1 hb => awake_any w1 (he.below hb))
 have HFw : Hid (∀ w1, Below w.heap.size w w1 → Calls Tryz.prog 11 #[.slice A l.length c] w1 (RetBool (ptsFew l) w1)) := hD (fun w1 hb => few53_any A c l w1 (hp.below hb) hs hn2)
 have HEnv := hD he
 have HSz := hD hs
 have HB0 := hD (Below.refl w.heap.size w)
 clear he hp hs
 go_enter Tryz.func3, Tryz.ntmps3
 go_wp2_with fail
 refine (HA.out _ HB0.out).mono ?_
 rintro e w1 ⟨rfl, b1⟩
 have HB1 := hD (bon HB0.out b1)
 clear b1
 go_wp2_with fail
 refine (HFw.out _ HB1.out).mono ?_
 rintro e w2 ⟨rfl, b2⟩
 have HB2 := hD (bon HB1.out b2)
 clear b2
 cases hq : ptsFew l with
 | false =>
  clear hq
  go_wp2_with fail
  refine (HA.out _ HB2.out).mono ?_
  rintro e w3 ⟨rfl, b3⟩
  have HB3 := hD (bon HB2.out b3)
  clear b3
  go_wp2_with fail
  go_ret
  exact ret_bl rfl HB3.out
 | true =>
  have HT := hD (few_texts hq)
  have HFp : Hid (fewPts l) := hD (fun x hx => ⟨HSz.out x hx, Nat.le_trans (HT.out x hx).1 (by decide)⟩)
  clear hq
  go_wp2_with fail
  refine (clonePt_any A c l w2 (HP.out.below HB2.out).1 hn).mono ?_
  rintro e w3 ⟨A3, c3, rfl, hown, hs⟩
  obtain ⟨hp3, -, -⟩ := pts_own hown (HP.out.below HB2.out).2 hs
  have HP3 := hD hp3
  have HB3 := hD (bon HB2.out hs)
  clear hs hown hp3
  have HE1 : Hid (EntOk 60 entB l w3) := hD (fun x hx _ W hW => isEntry_any x.text W (HEnv.out.below (bon HB3.out hW)) (HT.out x hx).1)
  go_wp2_with fail
  refine (trValid_any A3 c3 l w3 entB HE1.out (HEnv.out.below HB3.out) HP3.out HFp.out hn2).mono ?_
  rintro e w4 ⟨rfl, hs⟩
  have HB4 := hD (bon HB3.out hs)
  clear hs HE1 HP3
  have HE2 : Hid (EntOk 65 entB l w4) := hD (fun x hx _ W _ => refEnt53_any x.text W (Nat.le_trans (HT.out x hx).1 (by decide)))
  go_wp2_with fail
  refine (refValidTr_any A c l w4 entB HE2.out (HP.out.below HB4.out) HFp.out hn2).mono ?_
  rintro e w5 ⟨rfl, hs⟩
  have HB5 := hD (bon HB4.out hs)
  clear hs HE2
  go_wp2_with fail
  go_ret
  exact ret_bl (by simp) HB5.out
end Go.Proofs.YtepbbaifpckcpaaGreatDoor
