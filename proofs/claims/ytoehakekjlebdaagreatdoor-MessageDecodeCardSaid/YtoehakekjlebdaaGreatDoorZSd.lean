/- message.part at messages; message.Decode. -/
import Derived.Test.YtoehakekjlebdaaGreatDoorZSc
import Derived.Test.YtoehakekjlebdaaGreatDoorZMa
namespace Go.Proofs.YtoehakekjlebdaaGreatDoor
open Go.RowKit

set_option maxRecDepth 100000 in
set_option maxHeartbeats 1000000 in
theorem partMs_any (g : Nat) (s : Sc) (t : List UInt8) (w : World) (hs : Ss w g s)
    (HF : ∀ q W, Ss W q ⟨t, false⟩ → Calls Tryz.prog 35 #[.pointer (some ⟨q, 0, none⟩)] W (RetX msC Ms.er Ms.ok q (tkMs ⟨t, false⟩) W)) :
    Calls Tryz.prog 34 #[.pointer (some ⟨g, 0, none⟩), .string ⟨t.toArray⟩, .func (.func 35) #[] #[]] w (RetX msC Ms.er Ms.ok g (tkPart tkMs t s) w) := by
  obtain ⟨r, b⟩ := s
  have hgl := hs.lt
  obtain ⟨y, hy⟩ : ∃ y, y = tkMs ⟨t, false⟩ := ⟨_, rfl⟩
  obtain ⟨y1, r', b'⟩ := y
  have HR : Hid (tkPart tkMs t ⟨r, b⟩ = (y1, ⟨r, b || b' || !r'.isEmpty⟩)) := Lib.hid (by unfold tkPart; rw [← hy])
  have HFX := Lib.hid HF
  have HY := Lib.hid hy
  have HV0 := Lib.hid (Vr.new w [.int .i64 0, .int .i64 0, .int .i64 0, .int .i64 0, .int .i64 0, .string ⟨#[]⟩, .int .i64 0, .int .i64 0, .int .i64 0, .int .i64 0, .int .i64 0, .string ⟨#[]⟩, .string ⟨#[]⟩, .slice none 0 0, .slice none 0 0, .int .i64 0, .string ⟨#[]⟩, .slice none 0 0, .slice none 0 0, .slice none 0 0, .slice none 0 0] 36)
  have HV1 := Lib.hid (HV0.out.below (below_new (w.alloc (.cells #[.int .i64 0, .int .i64 0, .int .i64 0, .int .i64 0, .int .i64 0, .string ⟨#[]⟩, .int .i64 0, .int .i64 0, .int .i64 0, .int .i64 0, .int .i64 0, .string ⟨#[]⟩, .string ⟨#[]⟩, .slice none 0 0, .slice none 0 0, .int .i64 0, .string ⟨#[]⟩, .slice none 0 0, .slice none 0 0, .slice none 0 0, .slice none 0 0] 36)) (.cells #[.string ⟨t.toArray⟩, .bool false] 58)))
  have HS1 := Lib.hid (((SsTo.refl hs).alloc (.cells #[.int .i64 0, .int .i64 0, .int .i64 0, .int .i64 0, .int .i64 0, .string ⟨#[]⟩, .int .i64 0, .int .i64 0, .int .i64 0, .int .i64 0, .int .i64 0, .string ⟨#[]⟩, .string ⟨#[]⟩, .slice none 0 0, .slice none 0 0, .int .i64 0, .string ⟨#[]⟩, .slice none 0 0, .slice none 0 0, .slice none 0 0, .slice none 0 0] 36)).alloc (.cells #[.string ⟨t.toArray⟩, .bool false] 58))
  have HQ1 := Lib.hid (Ss.new' (w.alloc (.cells #[.int .i64 0, .int .i64 0, .int .i64 0, .int .i64 0, .int .i64 0, .string ⟨#[]⟩, .int .i64 0, .int .i64 0, .int .i64 0, .int .i64 0, .int .i64 0, .string ⟨#[]⟩, .string ⟨#[]⟩, .slice none 0 0, .slice none 0 0, .int .i64 0, .string ⟨#[]⟩, .slice none 0 0, .slice none 0 0, .slice none 0 0, .slice none 0 0] 36)) t false 58 (g := w.heap.size + 1) (by simp))
  have HZ1 : Hid (((w.alloc (.cells #[.int .i64 0, .int .i64 0, .int .i64 0, .int .i64 0, .int .i64 0, .string ⟨#[]⟩, .int .i64 0, .int .i64 0, .int .i64 0, .int .i64 0, .int .i64 0, .string ⟨#[]⟩, .string ⟨#[]⟩, .slice none 0 0, .slice none 0 0, .int .i64 0, .string ⟨#[]⟩, .slice none 0 0, .slice none 0 0, .slice none 0 0, .slice none 0 0] 36)).alloc (.cells #[.string ⟨t.toArray⟩, .bool false] 58)).heap.size = w.heap.size + 2) := Lib.hid (by simp)
  clear hs hy HF HV0
  go_enter Tryz.func34, Tryz.ntmps34
  go_wp2_with fail
  refine (HFX.out (w.heap.size + 1) _ HQ1.out).mono ?_
  rintro e w2 ⟨x, he, hx, hst, hss⟩
  rw [← HY.out] at hss hx
  subst he
  rw [HZ1.out] at hst
  have h2 := hss.1.size
  rw [HZ1.out] at h2
  have HT0 := Lib.hid (Vr.new w2 [.int .i64 0, .int .i64 0, .int .i64 0, .int .i64 0, .int .i64 0, .string ⟨#[]⟩, .int .i64 0, .int .i64 0, .int .i64 0, .int .i64 0, .int .i64 0, .string ⟨#[]⟩, .string ⟨#[]⟩, .slice none 0 0, .slice none 0 0, .int .i64 0, .string ⟨#[]⟩, .slice none 0 0, .slice none 0 0, .slice none 0 0, .slice none 0 0] 36)
  have HV2 := Lib.hid (((HV1.out.grown hss.1 (by omega)).below (below_new w2 (.cells #[.int .i64 0, .int .i64 0, .int .i64 0, .int .i64 0, .int .i64 0, .string ⟨#[]⟩, .int .i64 0, .int .i64 0, .int .i64 0, .int .i64 0, .int .i64 0, .string ⟨#[]⟩, .string ⟨#[]⟩, .slice none 0 0, .slice none 0 0, .int .i64 0, .string ⟨#[]⟩, .slice none 0 0, .slice none 0 0, .slice none 0 0, .slice none 0 0] 36))).grown (grown_vs (b := w2.heap.size) (msC x)) (by omega))
  have HS2 := Lib.hid (((HS1.out.own hss.1 (by omega) (by omega)).alloc (.cells #[.int .i64 0, .int .i64 0, .int .i64 0, .int .i64 0, .int .i64 0, .string ⟨#[]⟩, .int .i64 0, .int .i64 0, .int .i64 0, .int .i64 0, .int .i64 0, .string ⟨#[]⟩, .string ⟨#[]⟩, .slice none 0 0, .slice none 0 0, .int .i64 0, .string ⟨#[]⟩, .slice none 0 0, .slice none 0 0, .slice none 0 0, .slice none 0 0] 36)).own (grown_vs (b := w2.heap.size) (msC x)) (by omega) (by omega))
  have HQ2 := Lib.hid ((hss.2.alloc (.cells #[.int .i64 0, .int .i64 0, .int .i64 0, .int .i64 0, .int .i64 0, .string ⟨#[]⟩, .int .i64 0, .int .i64 0, .int .i64 0, .int .i64 0, .int .i64 0, .string ⟨#[]⟩, .string ⟨#[]⟩, .slice none 0 0, .slice none 0 0, .int .i64 0, .string ⟨#[]⟩, .slice none 0 0, .slice none 0 0, .slice none 0 0, .slice none 0 0] 36)).grown (grown_vs (b := w2.heap.size) (msC x)) (by have := hss.2.lt; omega))
  have HX2 := Lib.hid (HT0.out.sets (msC x) rfl)
  have HT2 : Hid (Stays (w.heap.size + 2) (x.ok) ((w2.alloc (.cells #[.int .i64 0, .int .i64 0, .int .i64 0, .int .i64 0, .int .i64 0, .string ⟨#[]⟩, .int .i64 0, .int .i64 0, .int .i64 0, .int .i64 0, .int .i64 0, .string ⟨#[]⟩, .string ⟨#[]⟩, .slice none 0 0, .slice none 0 0, .int .i64 0, .string ⟨#[]⟩, .slice none 0 0, .slice none 0 0, .slice none 0 0, .slice none 0 0] 36)).setCells w2.heap.size 0 (msC x))) := Lib.hid (Held.stays (b4 := w2.heap.size) (((held_new hst (Nat.le_refl _) (Or.inr (Nat.le_refl _))).below (below_new w2 (.cells #[.int .i64 0, .int .i64 0, .int .i64 0, .int .i64 0, .int .i64 0, .string ⟨#[]⟩, .int .i64 0, .int .i64 0, .int .i64 0, .int .i64 0, .int .i64 0, .string ⟨#[]⟩, .string ⟨#[]⟩, .slice none 0 0, .slice none 0 0, .int .i64 0, .string ⟨#[]⟩, .slice none 0 0, .slice none 0 0, .slice none 0 0, .slice none 0 0] 36))).row (grown_vs (b := w2.heap.size) (msC x)) (Or.inr rfl)))
  have HX := Lib.hid hx
  clear hx hst hss HV1 HS1 HQ1 HZ1
  go_upto_region 3 with (refine wpList_store_mid rfl 36 _ _ rfl w2.heap.size 0 (msC x).toArray rfl rfl (HT0.out.there rfl) (infoMsn x) (msC_one' x) ?_)
  try simp only [List.toList_toArray]
  generalize (w2.alloc (.cells #[.int .i64 0, .int .i64 0, .int .i64 0, .int .i64 0, .int .i64 0, .string ⟨#[]⟩, .int .i64 0, .int .i64 0, .int .i64 0, .int .i64 0, .int .i64 0, .string ⟨#[]⟩, .string ⟨#[]⟩, .slice none 0 0, .slice none 0 0, .int .i64 0, .string ⟨#[]⟩, .slice none 0 0, .slice none 0 0, .slice none 0 0, .slice none 0 0] 36)).setCells w2.heap.size 0 (msC x) = w3 at HV2 HS2 HQ2 HT2 HX2 ⊢
  have HX3 : Hid (Vr w3 w2.heap.size (msC x)) := HX2
  clear HT0 HX2
  have c1 := HS2.out.2.c1
  have f1 := HS2.out.2.f1
  have dl := HS2.out.2.lt
  have q0 := HQ2.out.c0
  have q1 := HQ2.out.c1
  have ql := HQ2.out.lt
  simp only at c1 q0 q1
  have HVz : Hid (∀ v : Bool, Vr (w3.setCell ⟨g, 1, none⟩ (.bool v)) w.heap.size [.int .i64 0, .int .i64 0, .int .i64 0, .int .i64 0, .int .i64 0, .string ⟨#[]⟩, .int .i64 0, .int .i64 0, .int .i64 0, .int .i64 0, .int .i64 0, .string ⟨#[]⟩, .string ⟨#[]⟩, .slice none 0 0, .slice none 0 0, .int .i64 0, .string ⟨#[]⟩, .slice none 0 0, .slice none 0 0, .slice none 0 0, .slice none 0 0]) := Lib.hid (fun v => HV2.out.grown (grown_set w3 ⟨g, 1, none⟩ (.bool v)) (by show w.heap.size ≠ g; omega))
  have HXz : Hid (∀ v : Bool, Vr (w3.setCell ⟨g, 1, none⟩ (.bool v)) w2.heap.size (msC x)) := Lib.hid (fun v => HX3.out.grown (grown_set w3 ⟨g, 1, none⟩ (.bool v)) (by show w2.heap.size ≠ g; omega))
  have HFin : Hid (∀ v : Bool, v = (b || b' || !r'.isEmpty) → RetX msC Ms.er Ms.ok g (tkPart tkMs t ⟨r, b⟩) w (.returned (.agg (msC x).toArray)) ((w3.setCell ⟨g, 1, none⟩ (.bool v)).setCells w.heap.size 0 (msC x))) := Lib.hid (fun v hv =>
    ret_x HR.out rfl HX.out (((HT2.out.on (keeps_grown (grown_set w3 ⟨g, 1, none⟩ (.bool v)) (by show g < w.heap.size + 2; omega))).on (keeps_grown (grown_vs (b := w.heap.size) (msC x)) (by omega))).low (by omega))
      (((HS2.out.set1 v).own (grown_vs (b := w.heap.size) (msC x)) (Nat.le_refl _) (by omega)).eq (by rw [hv])))
  cases b
  · cases b'
    · cases r'
      · go_wp2_with (first
          | (refine wpList_load_mid rfl 36 _ rfl w2.heap.size 0 rfl (msC x) _ (HXz.out false).range Tryz.underlying36 rfl (infoMsn x) ?_)
          | (refine wpList_store_mid rfl 36 _ _ rfl w.heap.size 0 (msC x).toArray rfl rfl ((HVz.out false).there rfl) (infoMsn x) (msC_one' x) ?_))
        refine bodyPost_ret (v := .agg (msC x).toArray) ?_ rfl (HFin.out false rfl)
        exact results_mid Tryz.results34 _ _ w.heap.size (msC x) _ rfl ((HVz.out false).sets (msC x) rfl).range Tryz.underlying36 rfl (infoMsn x)
      · go_wp2_with (first
          | (refine wpList_load_mid rfl 36 _ rfl w2.heap.size 0 rfl (msC x) _ (HXz.out true).range Tryz.underlying36 rfl (infoMsn x) ?_)
          | (refine wpList_store_mid rfl 36 _ _ rfl w.heap.size 0 (msC x).toArray rfl rfl ((HVz.out true).there rfl) (infoMsn x) (msC_one' x) ?_))
        refine bodyPost_ret (v := .agg (msC x).toArray) ?_ rfl (HFin.out true rfl)
        exact results_mid Tryz.results34 _ _ w.heap.size (msC x) _ rfl ((HVz.out true).sets (msC x) rfl).range Tryz.underlying36 rfl (infoMsn x)
    · go_wp2_with (first
        | (refine wpList_load_mid rfl 36 _ rfl w2.heap.size 0 rfl (msC x) _ (HXz.out true).range Tryz.underlying36 rfl (infoMsn x) ?_)
        | (refine wpList_store_mid rfl 36 _ _ rfl w.heap.size 0 (msC x).toArray rfl rfl ((HVz.out true).there rfl) (infoMsn x) (msC_one' x) ?_))
      refine bodyPost_ret (v := .agg (msC x).toArray) ?_ rfl (HFin.out true rfl)
      exact results_mid Tryz.results34 _ _ w.heap.size (msC x) _ rfl ((HVz.out true).sets (msC x) rfl).range Tryz.underlying36 rfl (infoMsn x)
  · go_wp2_with (first
      | (refine wpList_load_mid rfl 36 _ rfl w2.heap.size 0 rfl (msC x) _ (HXz.out true).range Tryz.underlying36 rfl (infoMsn x) ?_)
      | (refine wpList_store_mid rfl 36 _ _ rfl w.heap.size 0 (msC x).toArray rfl rfl ((HVz.out true).there rfl) (infoMsn x) (msC_one' x) ?_))
    refine bodyPost_ret (v := .agg (msC x).toArray) ?_ rfl (HFin.out true (by simp))
    exact results_mid Tryz.results34 _ _ w.heap.size (msC x) _ rfl ((HVz.out true).sets (msC x) rfl).range Tryz.underlying36 rfl (infoMsn x)
def ms0 : Ms := ⟨0, 0, 0, 0, 0, [], 0, sg0, Sl.nil, Sl.nil, ⟨0, [], Sl.nil, Sl.nil, Sl.nil⟩, Sl.nil⟩
/-- a message or an error comes back -/
def RetDecM (o : Option Ms) (w : World) (e : Ending) (w' : World) : Prop := Below w.heap.size w w' ∧ match o with
  | some m => ∃ x, x.er = m ∧ e = .returned (.tuple #[.agg (msC x).toArray, .int .i64 0]) ∧ x.ok w'
  | none => e = .returned (.tuple #[.agg (msC ms0).toArray, .int .i64 2])
theorem ret_decM_none {o : Option Ms} {w w' : World} (h : o = none) (hb : Below w.heap.size w w') : RetDecM o w (.returned (.tuple #[.agg (msC ms0).toArray, .int .i64 2])) w' := by
  subst h; exact ⟨hb, rfl⟩
theorem ret_decM_some {o : Option Ms} {w w' : World} {x : Ms} (h : o = some x.er) (hb : Below w.heap.size w w') (hk : x.ok w') : RetDecM o w (.returned (.tuple #[.agg (msC x).toArray, .int .i64 0])) w' := by
  subst h; exact ⟨hb, x, rfl, rfl, hk⟩
theorem decMs_none {s : List UInt8} (h : whole rdMs s = none) : decMs s = none := by unfold decMs; rw [h]
theorem decMs_some {s : List UInt8} {m : Ms} (h : whole rdMs s = some m) : decMs s = if vMs m = 0 then some m else none := by unfold decMs; rw [h]
theorem below_gr {w w1 w2 : World} {b : Nat} (h : Below w.heap.size w w1) (hg : w1.grownBy w2 (some b)) (hb : w.heap.size ≤ b) : Below w.heap.size w w2 :=
  below_grown h h.size hg (fun g hq => by simp only [Option.some.injEq] at hq; omega)
set_option maxRecDepth 100000 in
set_option maxHeartbeats 2000000 in
theorem decode_any (s : List UInt8) (w : World) (hs : s.length ≤ 268435456) : Calls Tryz.prog 16 #[.string ⟨s.toArray⟩] w (RetDecM (decMs s) w) := by
  have HV0 := Lib.hid (Vr.new w (msC ms0) 36)
  have HV1 := Lib.hid (HV0.out.below (below_new (w.alloc (.cells (msC ms0).toArray 36)) (.cells #[.string ⟨#[]⟩, .bool false] 58)))
  have HB1 := Lib.hid (bon (below_new w (.cells (msC ms0).toArray 36)) (below_new (w.alloc (.cells (msC ms0).toArray 36)) (.cells #[.string ⟨#[]⟩, .bool false] 58)))
  have HQ1 := Lib.hid (Ss.new' (w.alloc (.cells (msC ms0).toArray 36)) [] false 58 (g := w.heap.size + 1) (by simp))
  have HZ1 : Hid (((w.alloc (.cells (msC ms0).toArray 36)).alloc (.cells #[.string ⟨#[]⟩, .bool false] 58)).heap.size = w.heap.size + 2) := Lib.hid (by simp)
  have HP := Lib.hid (partMs_any (w.heap.size + 1) ⟨[], false⟩ s _ HQ1.out (fun q W hW => readMessage_any q ⟨s, false⟩ W hW hs))
  cases hw : whole rdMs s with
  | none =>
    have hbad := part_none ag_ms s ⟨[], false⟩ hw
    have HD := Lib.hid (decMs_none hw)
    generalize tkPart tkMs s ⟨[], false⟩ = p at HP hbad
    obtain ⟨y, r', b'⟩ := p
    simp only at hbad
    subst hbad
    clear hw
    go_enter Tryz.func16, Tryz.ntmps16
    go_wp2_with fail
    refine HP.out.mono ?_
    rintro e w2 ⟨x, rfl, hx, hst, hss⟩
    have h2 := hss.1.size
    rw [HZ1.out] at h2
    have HT0 := Lib.hid (Vr.new w2 (msC ms0) 36)
    have HV2 := Lib.hid (((HV1.out.grown hss.1 (by omega)).below (below_new w2 (.cells (msC ms0).toArray 36))).grown (grown_vs (b := w2.heap.size) (msC x)) (by omega))
    have HB2 := Lib.hid (below_gr (bon (below_gr HB1.out hss.1 (by omega)) (below_new w2 (.cells (msC ms0).toArray 36))) (grown_vs (b := w2.heap.size) (msC x)) (by omega))
    have HQ2 := Lib.hid ((hss.2.alloc (.cells (msC ms0).toArray 36)).grown (grown_vs (b := w2.heap.size) (msC x)) (by have := hss.2.lt; omega))
    clear hx hst hss HV1 HQ1 HZ1 HP
    go_upto_region 3 with (refine wpList_store_mid rfl 36 _ _ rfl w2.heap.size 0 (msC x).toArray rfl rfl (HT0.out.there rfl) (infoMsn x) (msC_one' x) ?_)
    try simp only [List.toList_toArray]
    change Code.wp _ _ _ _ ((w2.alloc (.cells (msC ms0).toArray 36)).setCells w2.heap.size 0 (msC x))
    generalize (w2.alloc (.cells (msC ms0).toArray 36)).setCells w2.heap.size 0 (msC x) = w3 at HV2 HB2 HQ2 ⊢
    have q1 := HQ2.out.c1
    simp only at q1
    go_wp2_with (refine wpList_store_mid rfl 36 _ _ rfl w.heap.size 0 (msC ms0).toArray rfl rfl (HV2.out.there rfl) (infoMsn ms0) (msC_one' ms0) ?_)
    refine bodyPost_ret (v := .tuple #[.agg (msC ms0).toArray, .int .i64 2]) ?_ rfl (ret_decM_none HD.out (below_gr HB2.out (grown_vs (b := w.heap.size) (msC ms0)) (Nat.le_refl _)))
    exact results_mid_slot Tryz.results16 _ _ w.heap.size (msC ms0) _ _ rfl rfl (HV2.out.sets (msC ms0) rfl).range Tryz.underlying36 rfl (infoMsn ms0)
  | some m =>
    have hp := part_some ag_ms s ⟨[], false⟩ m hw
    have HD := Lib.hid (decMs_some hw)
    have hsz := whole_sz rdMs_sz hw
    rw [hp] at HP
    clear hw hp
    go_enter Tryz.func16, Tryz.ntmps16
    go_wp2_with fail
    refine HP.out.mono ?_
    rintro e w2 ⟨x, rfl, hx, hst, hss⟩
    simp only at hx hss
    rw [HZ1.out] at hst
    have h2 := hss.1.size
    rw [HZ1.out] at h2
    have HT0 := Lib.hid (Vr.new w2 (msC ms0) 36)
    have HV2 := Lib.hid (((HV1.out.grown hss.1 (by omega)).below (below_new w2 (.cells (msC ms0).toArray 36))).grown (grown_vs (b := w2.heap.size) (msC x)) (by omega))
    have HB2 := Lib.hid (below_gr (bon (below_gr HB1.out hss.1 (by omega)) (below_new w2 (.cells (msC ms0).toArray 36))) (grown_vs (b := w2.heap.size) (msC x)) (by omega))
    have HQ2 := Lib.hid ((hss.2.alloc (.cells (msC ms0).toArray 36)).grown (grown_vs (b := w2.heap.size) (msC x)) (by have := hss.2.lt; omega))
    have HX2 := Lib.hid (HT0.out.sets (msC x) rfl)
    have HT2 : Hid (Stays (w.heap.size + 2) (x.ok) ((w2.alloc (.cells (msC ms0).toArray 36)).setCells w2.heap.size 0 (msC x))) := Lib.hid (Held.stays (b4 := w2.heap.size) (((held_new hst (Nat.le_refl _) (Or.inr (Nat.le_refl _))).below (below_new w2 (.cells (msC ms0).toArray 36))).row (grown_vs (b := w2.heap.size) (msC x)) (Or.inr rfl)))
    have HX := Lib.hid hx
    clear hx hst hss HV1 HQ1 HZ1 HP
    go_upto_region 3 with (refine wpList_store_mid rfl 36 _ _ rfl w2.heap.size 0 (msC x).toArray rfl rfl (HT0.out.there rfl) (infoMsn x) (msC_one' x) ?_)
    try simp only [List.toList_toArray]
    change Code.wp _ _ _ _ ((w2.alloc (.cells (msC ms0).toArray 36)).setCells w2.heap.size 0 (msC x))
    generalize (w2.alloc (.cells (msC ms0).toArray 36)).setCells w2.heap.size 0 (msC x) = w3 at HV2 HB2 HQ2 HX2 HT2 ⊢
    have q1 := HQ2.out.c1
    simp only at q1
    have hxs : x.sz ≤ 268435456 := by rw [← Ms.sz_er, HX.out]; omega
    have HVal := Lib.hid (valid_any x w3 HT2.out.out (MsFew.of_sz (by omega)))
    have HVx : Hid (vMs x = vMs m) := Lib.hid (by rw [← vMs_er x, HX.out])
    go_wp2_with (refine wpList_load_wanted (by rfl) 36 _ rfl w2.heap.size 0 rfl (msC x) _ HX2.out.range Tryz.underlying36 rfl (infoMsn x) ?_)
    refine HVal.out.mono ?_
    rintro e w4 ⟨rfl, hb⟩
    have HV4 := Lib.hid (HV2.out.below hb)
    have HB4 := Lib.hid (bon HB2.out hb)
    have HX4 := Lib.hid (HX2.out.below hb)
    have HT4 := Lib.hid (HT2.out.on (keeps_below _ hb))
    clear hb q1 HVal
    by_cases h0 : vMs m = 0
    · have h1 : (vMs x == 0) = true := by rw [HVx.out, h0]; rfl
      have h2' : (vMs x != 0) = false := by rw [HVx.out, h0]; rfl
      have HY : Hid (decMs s = some x.er) := Lib.hid (by rw [HD.out, if_pos h0, HX.out])
      clear h0
      go_wp2_with (first
        | (refine wpList_load_mid rfl 36 _ rfl w2.heap.size 0 rfl (msC x) _ HX4.out.range Tryz.underlying36 rfl (infoMsn x) ?_)
        | (refine wpList_store_mid rfl 36 _ _ rfl w.heap.size 0 (msC x).toArray rfl rfl (HV4.out.there rfl) (infoMsn x) (msC_one' x) ?_))
      refine bodyPost_ret (v := .tuple #[.agg (msC x).toArray, .int .i64 0]) ?_ rfl (ret_decM_some HY.out (below_gr HB4.out (grown_vs (b := w.heap.size) (msC x)) (Nat.le_refl _)) (HT4.out.on (keeps_grown (grown_vs (b := w.heap.size) (msC x)) (by omega))).out)
      exact results_mid_slot Tryz.results16 _ _ w.heap.size (msC x) _ _ rfl rfl (HV4.out.sets (msC x) rfl).range Tryz.underlying36 rfl (infoMsn x)
    · have h1 : (vMs x == 0) = false := by rw [HVx.out]; simpa using h0
      have h2' : (vMs x != 0) = true := by rw [HVx.out]; simpa using h0
      have HY : Hid (decMs s = none) := Lib.hid (by rw [HD.out, if_neg h0])
      clear h0
      go_wp2_with (refine wpList_store_mid rfl 36 _ _ rfl w.heap.size 0 (msC ms0).toArray rfl rfl (HV4.out.there rfl) (infoMsn ms0) (msC_one' ms0) ?_)
      refine bodyPost_ret (v := .tuple #[.agg (msC ms0).toArray, .int .i64 2]) ?_ rfl (ret_decM_none HY.out (below_gr HB4.out (grown_vs (b := w.heap.size) (msC ms0)) (Nat.le_refl _)))
      exact results_mid_slot Tryz.results16 _ _ w.heap.size (msC ms0) _ _ rfl rfl (HV4.out.sets (msC ms0) rfl).range Tryz.underlying36 rfl (infoMsn ms0)
end Go.Proofs.YtoehakekjlebdaaGreatDoor
/- EncodeStatus, DecodeStatus. -/
namespace Go.Proofs.YtoehakekjlebdaaGreatDoor
open Go.RowKit

def encS0 (s : St) : List UInt8 := if vSt s = 0 then encSt s else []
theorem vSt_of (s : St) : (if (false || !stRange s) = true then (7 : Int) else if (false || !stShort s) = true then 3 else 0) = vSt s := by
  unfold vSt
  cases stRange s <;> cases stShort s <;> rfl
set_option maxRecDepth 100000 in
set_option maxHeartbeats 2000000 in
theorem encodeStatus_any (s : St) (w : World) (hok : s.ok w) (hs : s.sz ≤ 16777216) : Calls Tryz.prog 9 #[.agg (stC s).toArray] w (RetStrErr (encS0 s) (vSt s) w) := by
  obtain ⟨wa, hwa⟩ : ∃ wa, wa = (w.alloc (.cells (stC s).toArray 26)).alloc (.cells #[.bool false, .bool false] 53) := ⟨_, rfl⟩
  have HV : Hid (Vr wa w.heap.size (stC s)) := Lib.hid (by rw [hwa]; exact (Vr.new w (stC s) 26).below (below_new _ _))
  have HB : Hid (Below w.heap.size w wa) := Lib.hid (by rw [hwa]; exact bon (below_new _ _) (below_new _ _))
  have HK : Hid (Ck wa (w.heap.size + 1) false false) := Lib.hid (by
    have := Ck.new (w.alloc (.cells (stC s).toArray 26)) false false 53
    rw [hwa]; simpa using this)
  have hz := sum_ge Sg.sz s.cert.l 7 Sg.sz_ge
  have hn : s.cert.l.length ≤ 1099511627776 := by unfold St.sz at hs; omega
  have HS := Lib.hid (statusCk_any (w.heap.size + 1) false false s wa HK.out (Rd.apart hok.2.1 HB.out (by omega)) hn)
  have HC : Hid (∀ W, Below w.heap.size w W → Calls Tryz.prog 25 #[.agg (stC s).toArray] W (RetStr (encSt s) W)) := Lib.hid (fun W hb => codeStatus_any s W (St.below hok hb) hs)
  have HVs := Lib.hid (vSt_of s)
  have hwa2 : (w.alloc (.cells (stC s).toArray 26)).alloc (.cells #[.bool false, .bool false] 53) = wa := hwa.symm
  have HW := Lib.hid hwa2
  clear hok hs hz hn hwa hwa2
  go_enter Tryz.func9, Tryz.ntmps9
  go_upto_region 2 with fail
  rw [HW.out]
  go_wp2_with (refine wpList_load_mid rfl 26 _ rfl w.heap.size 0 rfl (stC s) _ HV.out.range Tryz.underlying26 rfl (infoStn s) ?_)
  refine HS.out.mono ?_
  rintro e w1 ⟨rfl, hck⟩
  have HV1 := Lib.hid (HV.out.grown hck.1 (by omega))
  have HB1 := Lib.hid (below_gr HB.out hck.1 (by omega))
  have HE := Lib.hid (eCk_any (w.heap.size + 1) (false || !stRange s) (false || !stShort s) w1 hck.2)
  rw [HVs.out] at HE
  clear hck
  go_wp2_with fail
  refine HE.out.mono ?_
  rintro e w2 ⟨rfl, rfl⟩
  by_cases h0 : vSt s = 0
  · have h1 : (vSt s == 0) = true := by simp [h0]
    have h2 : (vSt s != 0) = false := by simp [h0]
    have H0 := Lib.hid h0
    clear h0
    go_wp2_with (refine wpList_load_mid rfl 26 _ rfl w.heap.size 0 rfl (stC s) _ HV1.out.range Tryz.underlying26 rfl (infoStn s) ?_)
    refine (HC.out _ HB1.out).mono ?_
    rintro e w3 ⟨rfl, b3⟩
    have HB3 := Lib.hid (bon HB1.out b3)
    clear b3
    go_wp2_with fail
    go_ret2
    exact ret_se (by unfold encS0; rw [if_pos H0.out]) H0.out HB3.out
  · have h1 : (vSt s == 0) = false := by simp [h0]
    have h2 : (vSt s != 0) = true := by simp [h0]
    have H0 := Lib.hid h0
    clear h0
    go_wp2_with fail
    go_ret2
    exact ret_se (by unfold encS0; rw [if_neg H0.out]) rfl HB1.out
def st0 : St := ⟨0, 0, 0, 0, [], Sl.nil, sg0⟩
/-- a status or an error comes back -/
def RetDecS (o : Option St) (w : World) (e : Ending) (w' : World) : Prop := Below w.heap.size w w' ∧ match o with
  | some m => ∃ x, x.er = m ∧ e = .returned (.tuple #[.agg (stC x).toArray, .int .i64 0]) ∧ x.ok w'
  | none => e = .returned (.tuple #[.agg (stC st0).toArray, .int .i64 2])
theorem ret_decS_none {o : Option St} {w w' : World} (h : o = none) (hb : Below w.heap.size w w') : RetDecS o w (.returned (.tuple #[.agg (stC st0).toArray, .int .i64 2])) w' := by
  subst h; exact ⟨hb, rfl⟩
theorem ret_decS_some {o : Option St} {w w' : World} {x : St} (h : o = some x.er) (hb : Below w.heap.size w w') (hk : x.ok w') : RetDecS o w (.returned (.tuple #[.agg (stC x).toArray, .int .i64 0])) w' := by
  subst h; exact ⟨hb, x, rfl, rfl, hk⟩
theorem decSt_none {s : List UInt8} (h : whole rdSt s = none) : decSt s = none := by unfold decSt; rw [h]
theorem decSt_some {s : List UInt8} {m : St} (h : whole rdSt s = some m) : decSt s = if vSt m = 0 then some m else none := by unfold decSt; rw [h]
theorem vSt_er (x : St) : vSt x.er = vSt x := rfl
set_option maxRecDepth 100000 in
set_option maxHeartbeats 2000000 in
theorem decodeStatus_any (s : List UInt8) (w : World) (hs : s.length ≤ 2000000) : Calls Tryz.prog 11 #[.string ⟨s.toArray⟩] w (RetDecS (decSt s) w) := by
  obtain ⟨wa, hwa⟩ : ∃ wa, wa = (w.alloc (.cells (stC st0).toArray 26)).alloc (.cells #[.string ⟨#[]⟩, .bool false] 58) := ⟨_, rfl⟩
  have HV1 : Hid (Vr wa w.heap.size (stC st0)) := Lib.hid (by rw [hwa]; exact (Vr.new w (stC st0) 26).below (below_new _ _))
  have HB1 : Hid (Below w.heap.size w wa) := Lib.hid (by rw [hwa]; exact bon (below_new _ _) (below_new _ _))
  have HQ1 : Hid (Ss wa (w.heap.size + 1) ⟨[], false⟩) := Lib.hid (by rw [hwa]; exact Ss.new' (w.alloc (.cells (stC st0).toArray 26)) [] false 58 (g := w.heap.size + 1) (by simp))
  have HZ1 : Hid (wa.heap.size = w.heap.size + 2) := Lib.hid (by rw [hwa]; simp)
  have HP := Lib.hid (partSt_any (w.heap.size + 1) ⟨[], false⟩ s wa HQ1.out (fun q W hW => readStatus_any q ⟨s, false⟩ W hW (Nat.le_trans hs (by decide))))
  have hwa2 : (w.alloc (.cells (stC st0).toArray 26)).alloc (.cells #[.string ⟨#[]⟩, .bool false] 58) = wa := hwa.symm
  have HW := Lib.hid hwa2
  obtain ⟨p, hp⟩ : ∃ p, p = tkPart tkSt s ⟨[], false⟩ := ⟨_, rfl⟩
  have hsz : p.1.sz ≤ 16777216 := by rw [hp]; have := tkSt_sz ⟨s, false⟩; show (tkSt ⟨s, false⟩).1.sz ≤ _; simp only at this; omega
  have HD : Hid (decSt s = if p.2.bad then none else if vSt p.1 = 0 then some p.1 else none) := Lib.hid (by
    rw [hp]
    cases hw : whole rdSt s with
    | none => rw [decSt_none hw, part_none ag_st s _ hw]; rfl
    | some m => rw [decSt_some hw, part_some ag_st s _ m hw]; rfl)
  rw [← hp] at HP
  obtain ⟨y, r', b'⟩ := p
  simp only at hsz HD HP
  clear hp hwa hwa2
  go_enter Tryz.func11, Tryz.ntmps11
  go_upto_region 2 with fail
  change Code.wp _ _ _ _ ((w.alloc (.cells (stC st0).toArray 26)).alloc (.cells #[.string ⟨#[]⟩, .bool false] 58))
  rw [HW.out]
  go_wp2_with fail
  refine HP.out.mono ?_
  rintro e w2 ⟨x, he, hx, hst, hss⟩
  obtain rfl : e = .returned (.agg #[.int .i64 x.server, .int .i64 x.view, .int .i64 x.length, .int .i64 x.lockView, .string ⟨x.lock.toArray⟩, .slice x.cert.a x.cert.l.length x.cert.c, .int .i64 x.signed.server, .int .i64 x.signed.kind, .int .i64 x.signed.view, .int .i64 x.signed.slot, .string ⟨x.signed.digest.toArray⟩, .string ⟨x.signed.sig.toArray⟩]) := he
  simp only at hx hss
  rw [HZ1.out] at hst
  have h2 := hss.1.size
  rw [HZ1.out] at h2
  have HV2 := Lib.hid ((HV1.out.grown hss.1 (by omega)).below (below_new w2 (.cells (stC x).toArray 26)))
  have HB2 := Lib.hid (bon (below_gr HB1.out hss.1 (by omega)) (below_new w2 (.cells (stC x).toArray 26)))
  have HQ2 := Lib.hid (hss.2.alloc (.cells (stC x).toArray 26))
  have HX2 := Lib.hid (Vr.new w2 (stC x) 26)
  have HT2 := Lib.hid (hst.on (keeps_below _ (below_new w2 (.cells (stC x).toArray 26))))
  have HX := Lib.hid hx
  clear hx hst hss HV1 HQ1 HZ1 HP
  go_upto_region 3 with fail
  obtain ⟨w3, hw3⟩ : ∃ w3, w3 = w2.alloc (.cells (stC x).toArray 26) := ⟨_, rfl⟩
  rw [← hw3] at HV2 HB2 HQ2 HX2 HT2
  change Code.wp _ _ _ _ (w2.alloc (.cells (stC x).toArray 26))
  rw [← hw3]
  clear hw3
  have hxs : x.sz ≤ 16777216 := by have : x.er.sz = x.sz := rfl; rw [← this, HX.out]; exact hsz
  have HEn := Lib.hid (encodeStatus_any x w3 HT2.out.out hxs)
  have HVx : Hid (vSt x = vSt y) := Lib.hid (by rw [← vSt_er x, HX.out])
  clear hxs hsz
  go_wp2_with (refine wpList_load_mid rfl 26 _ rfl w2.heap.size 0 rfl (stC x) _ HX2.out.range Tryz.underlying26 rfl (infoStn x) ?_)
  refine HEn.out.mono ?_
  rintro e w4 ⟨rfl, hb⟩
  have HV4 := Lib.hid (HV2.out.below hb)
  have HB4 := Lib.hid (bon HB2.out hb)
  have HX4 := Lib.hid (HX2.out.below hb)
  have HQ4 := Lib.hid (HQ2.out.below hb)
  have HT4 := Lib.hid (HT2.out.on (keeps_below _ hb))
  have q1 := HQ4.out.c1
  simp only at q1
  clear hb HEn
  have Bad : ∀ z : Bool, z = b' → True := fun _ _ => trivial
  clear Bad
  cases b' with
  | true =>
    have HY : Hid (decSt s = none) := Lib.hid (by rw [HD.out]; rfl)
    go_wp2_with (refine wpList_store_mid rfl 26 _ _ rfl w.heap.size 0 (stC st0).toArray rfl rfl (HV4.out.there (n := 12) rfl) (infoStn st0) (stC_one' st0) ?_)
    refine bodyPost_ret (v := .tuple #[.agg (stC st0).toArray, .int .i64 2]) ?_ rfl (ret_decS_none HY.out (below_gr HB4.out (grown_vs (b := w.heap.size) (stC st0)) (Nat.le_refl _)))
    exact results_mid_slot Tryz.results11 _ _ w.heap.size (stC st0) _ _ rfl rfl (HV4.out.sets (stC st0) rfl).range Tryz.underlying26 rfl (infoStn st0)
  | false =>
    by_cases h0 : vSt y = 0
    · have h1 : (vSt x == 0) = true := by rw [HVx.out, h0]; rfl
      have h2' : (vSt x != 0) = false := by rw [HVx.out, h0]; rfl
      have HY : Hid (decSt s = some x.er) := Lib.hid (by rw [HD.out, HX.out]; simp [h0])
      clear h0
      go_wp2_with (first
        | (refine wpList_load_mid rfl 26 _ rfl w2.heap.size 0 rfl (stC x) _ HX4.out.range Tryz.underlying26 rfl (infoStn x) ?_)
        | (refine wpList_store_mid rfl 26 _ _ rfl w.heap.size 0 (stC x).toArray rfl rfl (HV4.out.there (n := 12) rfl) (infoStn x) (stC_one' x) ?_))
      refine bodyPost_ret (v := .tuple #[.agg (stC x).toArray, .int .i64 0]) ?_ rfl (ret_decS_some HY.out (below_gr HB4.out (grown_vs (b := w.heap.size) (stC x)) (Nat.le_refl _)) (HT4.out.on (keeps_grown (grown_vs (b := w.heap.size) (stC x)) (by omega))).out)
      exact results_mid_slot Tryz.results11 _ _ w.heap.size (stC x) _ _ rfl rfl (HV4.out.sets (stC x) rfl).range Tryz.underlying26 rfl (infoStn x)
    · have h1 : (vSt x == 0) = false := by rw [HVx.out]; simpa using h0
      have h2' : (vSt x != 0) = true := by rw [HVx.out]; simpa using h0
      have HY : Hid (decSt s = none) := Lib.hid (by rw [HD.out]; simp [h0])
      clear h0
      go_wp2_with (refine wpList_store_mid rfl 26 _ _ rfl w.heap.size 0 (stC st0).toArray rfl rfl (HV4.out.there (n := 12) rfl) (infoStn st0) (stC_one' st0) ?_)
      refine bodyPost_ret (v := .tuple #[.agg (stC st0).toArray, .int .i64 2]) ?_ rfl (ret_decS_none HY.out (below_gr HB4.out (grown_vs (b := w.heap.size) (stC st0)) (Nat.le_refl _)))
      exact results_mid_slot Tryz.results11 _ _ w.heap.size (stC st0) _ _ rfl rfl (HV4.out.sets (stC st0) rfl).range Tryz.underlying26 rfl (infoStn st0)
end Go.Proofs.YtoehakekjlebdaaGreatDoor
