/- The contracts of equal, Equal of points. -/
import Derived.Test.YtepbbaifpckcpaaGreatDoorVPl
import Derived.Test.YtepbbaifpckcpaaGreatDoorVTa
namespace Go.Proofs.YtepbbaifpckcpaaGreatDoor
open Go.RowKit
set_option maxRecDepth 100000 in
set_option maxHeartbeats 8000000 in
theorem trEqual_any (a b : Pt) (w : World) (ha : a.ok w) (hb : b.ok w) (sa : a.msg.sz ≤ 16777216) (sb : b.msg.sz ≤ 16777216) : Calls Tryz.prog 56 #[.agg (ptC a).toArray, .agg (ptC b).toArray] w (RetBool (eqPt a b) w) := by
 have HA := hD ((Vr.new w (ptC a) 40).below (below_new (w.alloc (.cells (ptC a).toArray 40)) (.cells (ptC b).toArray 40)))
 have HB := hD (Vr.new' (w.alloc (.cells (ptC a).toArray 40)) (ptC b) 40 (b := w.heap.size + 1) (by simp))
 have HL := hD (bon (below_new w (.cells (ptC a).toArray 40)) (below_new (w.alloc (.cells (ptC a).toArray 40)) (.cells (ptC b).toArray 40)))
 have HM : Hid (∀ W, Below w.heap.size w W → Calls Tryz.prog 92 #[.agg (msC a.msg).toArray, .agg (msC b.msg).toArray] W (RetBool (sameT (encMs a.msg) (encMs b.msg)) W)) := hD (fun W h => msgEqual_any a.msg b.msg W (Ms.below ha.2 h) (Ms.below hb.2 h) sa sb)
 clear ha hb sa sb
 go_enter Tryz.func56, Tryz.ntmps56
 go_upto_region 1 with fail
 change Code.wp _ _ _ _ ((w.alloc (.cells (ptC a).toArray 40)).alloc (.cells (ptC b).toArray 40))
 generalize (w.alloc (.cells (ptC a).toArray 40)).alloc (.cells (ptC b).toArray 40) = w1 at HA HB HL ⊢
 have c0 := HA.out.cells 0 _ rfl
 have d0 := HB.out.cells 0 _ rfl
 have c1 := HA.out.cells 1 _ rfl
 have d1 := HB.out.cells 1 _ rfl
 have c2 := HA.out.cells 2 _ rfl
 have d2 := HB.out.cells 2 _ rfl
 have c3 := HA.out.cells 3 _ rfl
 have d3 := HB.out.cells 3 _ rfl
 have c4 := HA.out.cells 4 _ rfl
 have d4 := HB.out.cells 4 _ rfl
 have c5 := HA.out.cells 5 _ rfl
 have d5 := HB.out.cells 5 _ rfl
 have c6 := HA.out.cells 6 _ rfl
 have d6 := HB.out.cells 6 _ rfl
 have la := HA.out.lt
 have lb := HB.out.lt
 by_cases h0 : a.time = b.time
 case neg =>
  have HF : Hid (eqPt a b = false) := hD (by simp [eqPt, h0])
  have q0 : (a.time == b.time) = false := by simpa using h0
  clear h0
  go_wp2_with fail
  go_ret
  exact ret_bl HF.out HL.out
 have q0 : (a.time == b.time) = true := by simpa using h0
 by_cases h1 : a.kind = b.kind
 case neg =>
  have HF : Hid (eqPt a b = false) := hD (by simp [eqPt, h1])
  have q1 : (a.kind == b.kind) = false := by simpa using h1
  clear h1
  go_wp2_with fail
  go_ret
  exact ret_bl HF.out HL.out
 have q1 : (a.kind == b.kind) = true := by simpa using h1
 by_cases h2 : a.who = b.who
 case neg =>
  have HF : Hid (eqPt a b = false) := hD (by simp [eqPt, h2])
  have q2 : (a.who == b.who) = false := by simpa using h2
  clear h2
  go_wp2_with fail
  go_ret
  exact ret_bl HF.out HL.out
 have q2 : (a.who == b.who) = true := by simpa using h2
 by_cases h3 : a.slot = b.slot
 case neg =>
  have HF : Hid (eqPt a b = false) := hD (by simp [eqPt, h3])
  have q3 : (a.slot == b.slot) = false := by simpa using h3
  clear h3
  go_wp2_with fail
  go_ret
  exact ret_bl HF.out HL.out
 have q3 : (a.slot == b.slot) = true := by simpa using h3
 by_cases h4 : a.number = b.number
 case neg =>
  have HF : Hid (eqPt a b = false) := hD (by simp [eqPt, h4])
  have q4 : (a.number == b.number) = false := by simpa using h4
  clear h4
  go_wp2_with fail
  go_ret
  exact ret_bl HF.out HL.out
 have q4 : (a.number == b.number) = true := by simpa using h4
 by_cases h5 : a.text = b.text
 case neg =>
  have HF : Hid (eqPt a b = false) := hD (by simp [eqPt, h5])
  have q5 : (a.text == b.text) = false := by simpa using h5
  clear h5
  go_wp2_with fail
  go_ret
  exact ret_bl HF.out HL.out
 have q5 : (a.text == b.text) = true := by simpa using h5
 by_cases h6 : a.result = b.result
 case neg =>
  have HF : Hid (eqPt a b = false) := hD (by simp [eqPt, h6])
  have q6 : (a.result == b.result) = false := by simpa using h6
  clear h6
  go_wp2_with fail
  go_ret
  exact ret_bl HF.out HL.out
 have q6 : (a.result == b.result) = true := by simpa using h6
 have HF : Hid (eqPt a b = sameT (encMs a.msg) (encMs b.msg)) := hD (by simp [eqPt, h0, h1, h2, h3, h4, h5, h6])
 clear h0 h1 h2 h3 h4 h5 h6
 go_wp2_with (first
  | (refine wpList_load_wanted (by rfl) 38 _ rfl w.heap.size 7 rfl (msC a.msg) _ HA.out.msg Tryz.underlying38 rfl (infoMsn a.msg) ?_)
  | (refine wpList_load_wanted (by rfl) 38 _ rfl (w.heap.size + 1) 7 rfl (msC b.msg) _ HB.out.msg Tryz.underlying38 rfl (infoMsn b.msg) ?_))
 refine (HM.out _ HL.out).mono ?_
 rintro e w2 ⟨rfl, b2⟩
 have HL2 := hD (bon HL.out b2)
 clear b2
 generalize sameT (encMs a.msg) (encMs b.msg) = q at HF ⊢
 go_wp2_with fail
 go_ret
 exact ret_bl HF.out HL2.out
set_option maxRecDepth 100000 in
set_option maxHeartbeats 8000000 in
theorem refEqualPt_any (a b : Pt) (w : World) (ha : a.ok w) (hb : b.ok w) (sa : a.msg.sz ≤ 16777216) (sb : b.msg.sz ≤ 16777216) : Calls Tryz.prog 45 #[.agg (ptC a).toArray, .agg (ptC b).toArray] w (RetBool (eqPt a b) w) := by
 have HA := hD ((Vr.new w (ptC a) 40).below (below_new (w.alloc (.cells (ptC a).toArray 40)) (.cells (ptC b).toArray 40)))
 have HB := hD (Vr.new' (w.alloc (.cells (ptC a).toArray 40)) (ptC b) 40 (b := w.heap.size + 1) (by simp))
 have HL := hD (bon (below_new w (.cells (ptC a).toArray 40)) (below_new (w.alloc (.cells (ptC a).toArray 40)) (.cells (ptC b).toArray 40)))
 have HM : Hid (∀ W, Below w.heap.size w W → Calls Tryz.prog 25 #[.agg (msC a.msg).toArray, .agg (msC b.msg).toArray] W (RetBool (sameT (encMs a.msg) (encMs b.msg)) W)) := hD (fun W h => refEqual_any a.msg b.msg W (Ms.below ha.2 h) (Ms.below hb.2 h) sa sb)
 clear ha hb sa sb
 go_enter Tryz.func45, Tryz.ntmps45
 go_upto_region 1 with fail
 change Code.wp _ _ _ _ ((w.alloc (.cells (ptC a).toArray 40)).alloc (.cells (ptC b).toArray 40))
 generalize (w.alloc (.cells (ptC a).toArray 40)).alloc (.cells (ptC b).toArray 40) = w1 at HA HB HL ⊢
 have c0 := HA.out.cells 0 _ rfl
 have d0 := HB.out.cells 0 _ rfl
 have c1 := HA.out.cells 1 _ rfl
 have d1 := HB.out.cells 1 _ rfl
 have c2 := HA.out.cells 2 _ rfl
 have d2 := HB.out.cells 2 _ rfl
 have c3 := HA.out.cells 3 _ rfl
 have d3 := HB.out.cells 3 _ rfl
 have c4 := HA.out.cells 4 _ rfl
 have d4 := HB.out.cells 4 _ rfl
 have c5 := HA.out.cells 5 _ rfl
 have d5 := HB.out.cells 5 _ rfl
 have c6 := HA.out.cells 6 _ rfl
 have d6 := HB.out.cells 6 _ rfl
 have la := HA.out.lt
 have lb := HB.out.lt
 by_cases h0 : a.time = b.time
 case neg =>
  have HF : Hid (eqPt a b = false) := hD (by simp [eqPt, h0])
  have q0 : (a.time == b.time) = false := by simpa using h0
  clear h0
  go_wp2_with fail
  go_ret
  exact ret_bl HF.out HL.out
 have q0 : (a.time == b.time) = true := by simpa using h0
 by_cases h1 : a.kind = b.kind
 case neg =>
  have HF : Hid (eqPt a b = false) := hD (by simp [eqPt, h1])
  have q1 : (a.kind == b.kind) = false := by simpa using h1
  clear h1
  go_wp2_with fail
  go_ret
  exact ret_bl HF.out HL.out
 have q1 : (a.kind == b.kind) = true := by simpa using h1
 by_cases h2 : a.who = b.who
 case neg =>
  have HF : Hid (eqPt a b = false) := hD (by simp [eqPt, h2])
  have q2 : (a.who == b.who) = false := by simpa using h2
  clear h2
  go_wp2_with fail
  go_ret
  exact ret_bl HF.out HL.out
 have q2 : (a.who == b.who) = true := by simpa using h2
 by_cases h3 : a.slot = b.slot
 case neg =>
  have HF : Hid (eqPt a b = false) := hD (by simp [eqPt, h3])
  have q3 : (a.slot == b.slot) = false := by simpa using h3
  clear h3
  go_wp2_with fail
  go_ret
  exact ret_bl HF.out HL.out
 have q3 : (a.slot == b.slot) = true := by simpa using h3
 by_cases h4 : a.number = b.number
 case neg =>
  have HF : Hid (eqPt a b = false) := hD (by simp [eqPt, h4])
  have q4 : (a.number == b.number) = false := by simpa using h4
  clear h4
  go_wp2_with fail
  go_ret
  exact ret_bl HF.out HL.out
 have q4 : (a.number == b.number) = true := by simpa using h4
 by_cases h5 : a.text = b.text
 case neg =>
  have HF : Hid (eqPt a b = false) := hD (by simp [eqPt, h5])
  have q5 : (a.text == b.text) = false := by simpa using h5
  clear h5
  go_wp2_with fail
  go_ret
  exact ret_bl HF.out HL.out
 have q5 : (a.text == b.text) = true := by simpa using h5
 by_cases h6 : a.result = b.result
 case neg =>
  have HF : Hid (eqPt a b = false) := hD (by simp [eqPt, h6])
  have q6 : (a.result == b.result) = false := by simpa using h6
  clear h6
  go_wp2_with fail
  go_ret
  exact ret_bl HF.out HL.out
 have q6 : (a.result == b.result) = true := by simpa using h6
 have HF : Hid (eqPt a b = sameT (encMs a.msg) (encMs b.msg)) := hD (by simp [eqPt, h0, h1, h2, h3, h4, h5, h6])
 clear h0 h1 h2 h3 h4 h5 h6
 go_wp2_with (first
  | (refine wpList_load_wanted (by rfl) 38 _ rfl w.heap.size 7 rfl (msC a.msg) _ HA.out.msg Tryz.underlying38 rfl (infoMsn a.msg) ?_)
  | (refine wpList_load_wanted (by rfl) 38 _ rfl (w.heap.size + 1) 7 rfl (msC b.msg) _ HB.out.msg Tryz.underlying38 rfl (infoMsn b.msg) ?_))
 refine (HM.out _ HL.out).mono ?_
 rintro e w2 ⟨rfl, b2⟩
 have HL2 := hD (bon HL.out b2)
 clear b2
 generalize sameT (encMs a.msg) (encMs b.msg) = q at HF ⊢
 go_wp2_with fail
 go_ret
 exact ret_bl HF.out HL2.out
end Go.Proofs.YtepbbaifpckcpaaGreatDoor
