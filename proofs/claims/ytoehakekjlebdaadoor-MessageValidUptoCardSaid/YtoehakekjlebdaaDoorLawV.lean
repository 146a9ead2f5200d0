/- The law MessageValid. -/
import Derived.Test.YtoehakekjlebdaaDoorMsC
namespace Go.Proofs.YtoehakekjlebdaaDoor
open Go.RowKit

def GivesInt (w : World) (cs : List Value) (T : TypeId) (n : Int) (e : Ending) (w' : World) : Prop := e = .returned (.int .i64 n) ∧ Bx w cs T w'
theorem gives_int {P : Program} {k : FuncId} {args : Array Value} {w w1 : World} {cs : List Value} {T : TypeId} {n : Int} (hb : Bx w cs T w1) (h : Calls P k args w1 (RetErr n w1)) : Calls P k args w1 (GivesInt w cs T n) :=
  h.mono fun _ _ ⟨he, hw⟩ => ⟨he, bx_on hb hw⟩
set_option maxRecDepth 100000 in
set_option maxHeartbeats 8000000 in
theorem lawValid (m : Ms) (w : World) (he : Env w) (hok : m.ok w) (hs : m.sz ≤ 16777216) : Calls Tryd.prog 3 #[.agg (msC m).toArray] w (RetBool true w) := by
  have hf : MsFew m := MsFew.of_sz (by omega)
  have HA : Hid (∀ w1, Below w.heap.size w w1 → Calls Tryd.prog 6 #[] w1 (RetBool true w1)) := Lib.hid (fun w1 hb => awake_any w1 (he.below hb))
  have HFw : Hid (∀ w1, Below w.heap.size w w1 → Calls Tryd.prog 7 #[.agg (msC m).toArray] w1 (RetBool (fewB m) w1)) := Lib.hid (fun w1 hb => few_any m w1 (Ms.below hok hb) hs)
  have HV : Hid (∀ (w1 : World), Bx w (msC m) 32 w1 → Calls Tryd.prog 8 #[.agg (msC m).toArray] w1 (GivesInt w (msC m) 32 (vMs m))) := Lib.hid (fun w1 hb => gives_int hb (valid_any m w1 (Ms.below hok (bx_low hb)) hf))
  have HW : Hid (∀ (w1 : World), Bx w (msC m) 32 w1 → Calls Tryd.prog 9 #[.agg (msC m).toArray] w1 (GivesInt w (msC m) 32 (vMs m))) := Lib.hid (fun w1 hb => gives_int hb (refValid_any m w1 (Ms.below hok (bx_low hb)) hf))
  have HB0 := Lib.hid (bx_new w (msC m) 32)
  have HRow : Hid (∀ W, Bx w (msC m) 32 W → W.rangeAt w.heap.size 0 (msC m)) := Lib.hid (fun W hb j v hv => by rw [Nat.zero_add]; exact bx_cell hb j v hv)
  have HC : Hid (∀ W, Bx w (msC m) 32 W → Bx w (msC m) 32 W ∧ W.rangeAt w.heap.size 0 (msC m)) := Lib.hid (fun W hb => ⟨hb, HRow.out W hb⟩)
  clear hok hs hf he
  go_enter Tryd.func3, Tryd.ntmps3
  go_wp2_with fail
  refine (HA.out _ (bx_low HB0.out)).mono ?_
  rintro e w1 ⟨rfl, b1⟩
  have HB1 := Lib.hid (bx_on HB0.out b1)
  clear b1
  go_wp2_with (refine wpList_load_wanted (by rfl) 32 _ rfl _ 0 rfl (msC m) _ (HRow.out _ HB1.out) Tryd.underlying32 rfl (infoMs m) ?_)
  refine (HFw.out _ (bx_low HB1.out)).mono ?_
  rintro e w2 ⟨rfl, b2⟩
  have HB2 := Lib.hid (bx_on HB1.out b2)
  clear b2
  cases hq : fewB m with
  | false =>
    clear hq
    go_wp2_with fail
    refine (HA.out _ (bx_low HB2.out)).mono ?_
    rintro e w3 ⟨rfl, b3⟩
    have HB3 := Lib.hid (bx_low (bx_on HB2.out b3))
    clear b3
    go_wp2_with fail
    go_ret
    exact ret_bl rfl HB3.out
  | true =>
    clear hq
    go_wp2_with fail
    refine wp_region_noPanic ?_
    refine wp_region_held_drew (S := fun W => Bx w (msC m) 32 W) (by kernel_rfl) (bx_drew HB2.out) (fun hHeld => ?_)
    refine wpAnyH_take (i := 0) (oi := _) rfl (by kernel_rfl) (by kernel_rfl) (by kernel_rfl) (fun _ _ _ h => h) (yieldsIf_load_mid (by rfl) 32 _ (by rfl) _ 0 (by rfl) (msC m) _ HRow.out Tryd.underlying32 rfl (infoMs m)) (by assumption) ?_
    try simp only [Act.put, List.setIfInBounds_toArray, List.set_cons_zero, List.set_cons_succ]
    refine wpAnyH_take (i := 2) (oi := _) rfl (by kernel_rfl) (by kernel_rfl) (by kernel_rfl) (fun _ _ _ h => h) (yieldsIf_load_mid (by rfl) 32 _ (by rfl) _ 0 (by rfl) (msC m) _ HRow.out Tryd.underlying32 rfl (infoMs m)) (by assumption) ?_
    try simp only [Act.put, List.setIfInBounds_toArray, List.set_cons_zero, List.set_cons_succ]
    refine wpAnyH_ready (rs := [1]) (by kernel_rfl) (by simp) ?_
    refine AllReadyH.cons (o := _) rfl (fun K hK => ?_) AllReadyH.nil
    go_simp
    go_at_call 8
    refine (HV.out _ (by assumption)).mono ?_
    rintro e w4 ⟨rfl, b4⟩
    go_wp2_with fail
    refine hK.out _ _ b4 (fun hHeld => ?_)
    clear hK K
    try simp only [Act.put, List.setIfInBounds_toArray, List.set_cons_zero, List.set_cons_succ]
    refine wpAnyH_ready (rs := [3]) (by kernel_rfl) (by simp) ?_
    refine AllReadyH.cons (o := _) rfl (fun K hK => ?_) AllReadyH.nil
    go_simp
    go_at_call 9
    refine (HW.out _ (by assumption)).mono ?_
    rintro e w5 ⟨rfl, b5⟩
    go_wp2_with fail
    refine hK.out _ _ b5 (fun hHeld => ?_)
    clear hK K
    try simp only [Act.put, List.setIfInBounds_toArray, List.set_cons_zero, List.set_cons_succ]
    refine wpAnyH_take (i := 4) (oi := _) (v := ?_) rfl (by kernel_rfl) (by kernel_rfl) (by kernel_rfl) (fun _ _ _ h => h) (Or.inl ⟨by rfl, ?_⟩) (by assumption) ?_
    rotate_left
    · intro w hSw; (try dsimp only at hSw); go_simp; try with_reducible rfl
    try simp only [Act.put, List.setIfInBounds_toArray, List.set_cons_zero, List.set_cons_succ]
    refine wpAnyH_ready (rs := [5]) (by kernel_rfl) (by simp) ?_
    refine AllReadyH.cons (o := _) rfl (fun K hK => ?_) AllReadyH.nil
    go_simp
    refine hK.out _ _ b5 (fun hHeld => ?_)
    clear hK K
    try simp only [Act.put, List.setIfInBounds_toArray, List.set_cons_zero, List.set_cons_succ]
    refine wpAnyH_done (by kernel_rfl) ?_ _
    refine NoPanic.normal ?_
    go_wp2_with fail
    go_ret
    exact ret_bl (by simp) (bx_low b5)
end Go.Proofs.YtoehakekjlebdaaDoor
