/- The law MessageSignatures. -/
import Derived.Test.YtoehakekjlebdaaDoorMsC
import Derived.Test.YtoehakekjlebdaaDoorSgsD
namespace Go.Proofs.YtoehakekjlebdaaDoor
open Go.RowKit

def GivesSgs (w : World) (cs : List Value) (T : TypeId) (l : List Sg) (w1 : World) (e : Ending) (w' : World) : Prop := ∃ A c, e = .returned (.slice A l.length c) ∧ Rd w' 6 A l.length (l.flatMap sgC) ∧ Below w1.heap.size w1 w' ∧ Bx w cs T w'
theorem gives_sgs {P : Program} {k : FuncId} {args : Array Value} {w w1 : World} {cs : List Value} {T : TypeId} {l : List Sg} (hb : Bx w cs T w1) (h : Calls P k args w1 (RetSgs l w1)) : Calls P k args w1 (GivesSgs w cs T l w1) :=
  h.mono fun _ _ ⟨A, c, he, ho, hw⟩ => ⟨A, c, he, ho.rd, hw, bx_on hb hw⟩
theorem sgsMs_len (m : Ms) (hs : m.sz ≤ 16777216) : (sgsMs m).length ≤ 16777216 := by
  have h0 := head_le m
  have h1 := flat_le stSgs St.sz st_le m.statuses.l m.statuses.l.length
  have h2 := flat_le (fun d => d.cert.l) De.sz de_le m.entries.l m.entries.l.length
  have h3 := sum_ge Sg.sz m.snapshot.proof.l 7 Sg.sz_ge
  have h4 := flat_le (fun h => h.entry.cert.l) Ho.sz ho_le m.snapshot.chain.l m.snapshot.chain.l.length
  rw [List.take_length] at h1 h2 h4
  unfold sgsMs sgsProof sgsEnt sgsStat
  unfold Ms.sz Sn.sz at hs
  rw [List.length_append, List.length_append, List.length_append, List.length_append]
  omega
set_option maxRecDepth 100000 in
set_option maxHeartbeats 8000000 in
theorem lawSgs (m : Ms) (w : World) (he : Env w) (hok : m.ok w) (hs : m.sz ≤ 16777216) : Calls Tryd.prog 5 #[.agg (msC m).toArray] w (RetBool true w) := by
  have hlen := sgsMs_len m hs
  have HA : Hid (∀ w1, Below w.heap.size w w1 → Calls Tryd.prog 6 #[] w1 (RetBool true w1)) := Lib.hid (fun w1 hb => awake_any w1 (he.below hb))
  have HFw : Hid (∀ w1, Below w.heap.size w w1 → Calls Tryd.prog 7 #[.agg (msC m).toArray] w1 (RetBool (fewB m) w1)) := Lib.hid (fun w1 hb => few_any m w1 (Ms.below hok hb) hs)
  have HV : Hid (∀ (w1 : World), Bx w (msC m) 32 w1 → Calls Tryd.prog 14 #[.agg (msC m).toArray] w1 (GivesSgs w (msC m) 32 (sgsMs m) w1)) := Lib.hid (fun w1 hb => gives_sgs hb (sigs_any m w1 (Ms.below hok (bx_low hb)) hs))
  have HW : Hid (∀ (w1 : World), Bx w (msC m) 32 w1 → Calls Tryd.prog 15 #[.agg (msC m).toArray] w1 (GivesSgs w (msC m) 32 (sgsMs m) w1)) := Lib.hid (fun w1 hb => gives_sgs hb (refSigs_any m w1 (Ms.below hok (bx_low hb)) hs))
  have HB0 := Lib.hid (bx_new w (msC m) 32)
  have HRow : Hid (∀ W, Bx w (msC m) 32 W → W.rangeAt w.heap.size 0 (msC m)) := Lib.hid (fun W hb j v hv => by rw [Nat.zero_add]; exact bx_cell hb j v hv)
  have HC : Hid (∀ W, Bx w (msC m) 32 W → Bx w (msC m) 32 W ∧ W.rangeAt w.heap.size 0 (msC m)) := Lib.hid (fun W hb => ⟨hb, HRow.out W hb⟩)
  clear hok hs he
  generalize sgsMs m = L at HV HW hlen
  go_enter Tryd.func5, Tryd.ntmps5
  go_wp2_with fail
  refine (HA.out _ (bx_low HB0.out)).mono ?_
  rintro e w1 ⟨rfl, b1⟩
  have HB1 := Lib.hid (bx_on HB0.out b1)
  clear b1
  go_wp2_with (refine wpList_load_wanted (by rfl) 32 _ rfl _ 0 rfl (msC m) _ (HRow.out _ HB1.out) Tryd.underlying32 rfl (infoMs m) ?_)
  refine (HFw.out _ (bx_low HB1.out)).mono ?_
  rintro e w2 ⟨rfl, b2⟩
  have HB2 := Lib.hid (bx_on HB1.out b2)
  clear b2
  cases hq : fewB m with
  | false =>
    clear hq
    go_wp2_with fail
    refine (HA.out _ (bx_low HB2.out)).mono ?_
    rintro e w3 ⟨rfl, b3⟩
    have HB3 := Lib.hid (bx_low (bx_on HB2.out b3))
    clear b3
    go_wp2_with fail
    go_ret
    exact ret_bl rfl HB3.out
  | true =>
    clear hq
    go_wp2_with fail
    refine wp_region_noPanic ?_
    refine wp_region_held_drew (S := fun W => Bx w (msC m) 32 W) (by kernel_rfl) (bx_drew HB2.out) (fun hHeld => ?_)
    refine wpAnyH_take (i := 0) (oi := _) rfl (by kernel_rfl) (by kernel_rfl) (by kernel_rfl) (fun _ _ _ h => h) (yieldsIf_load_mid (by rfl) 32 _ (by rfl) _ 0 (by rfl) (msC m) _ HRow.out Tryd.underlying32 rfl (infoMs m)) (by assumption) ?_
    try simp only [Act.put, List.setIfInBounds_toArray, List.set_cons_zero, List.set_cons_succ]
    refine wpAnyH_take (i := 2) (oi := _) rfl (by kernel_rfl) (by kernel_rfl) (by kernel_rfl) (fun _ _ _ h => h) (yieldsIf_load_mid (by rfl) 32 _ (by rfl) _ 0 (by rfl) (msC m) _ HRow.out Tryd.underlying32 rfl (infoMs m)) (by assumption) ?_
    try simp only [Act.put, List.setIfInBounds_toArray, List.set_cons_zero, List.set_cons_succ]
    refine wpAnyH_ready (rs := [1]) (by kernel_rfl) (by simp) ?_
    refine AllReadyH.cons (o := _) rfl (fun K hK => ?_) AllReadyH.nil
    go_simp
    go_at_call 14
    refine (HV.out _ (by assumption)).mono ?_
    rintro e w4 ⟨A4, c4, rfl, r4, _, b4⟩
    have HR4 := Lib.hid r4
    clear r4
    go_wp2_with fail
    refine hK.out _ _ b4 (fun hHeld => ?_)
    clear hK K
    try simp only [Act.put, List.setIfInBounds_toArray, List.set_cons_zero, List.set_cons_succ]
    refine wpAnyH_ready (rs := [3]) (by kernel_rfl) (by simp) ?_
    refine AllReadyH.cons (o := _) rfl (fun K hK => ?_) AllReadyH.nil
    go_simp
    go_at_call 15
    refine (HW.out _ (by assumption)).mono ?_
    rintro e w5 ⟨A5, c5, rfl, r5, k5, b5⟩
    have HR5 := Lib.hid r5
    have HR6 := Lib.hid (HR4.out.below k5)
    clear r5 k5
    go_wp2_with fail
    refine hK.out _ _ b5 (fun hHeld => ?_)
    clear hK K
    try simp only [Act.put, List.setIfInBounds_toArray, List.set_cons_zero, List.set_cons_succ]
    refine wpAnyH_ready (rs := [4]) (by kernel_rfl) (by simp) ?_
    refine AllReadyH.cons (o := _) rfl (fun K hK => ?_) AllReadyH.nil
    go_simp
    go_at_call 13
    refine (slEqual_any A4 c4 L A5 c5 L w5 HR6.out HR5.out hlen hlen).mono ?_
    rintro e w6 ⟨rfl, k6⟩
    have b6 := bx_on b5 k6
    go_wp2_with fail
    refine hK.out _ _ b6 (fun hHeld => ?_)
    clear hK K
    try simp only [Act.put, List.setIfInBounds_toArray, List.set_cons_zero, List.set_cons_succ]
    refine wpAnyH_ready (rs := [5]) (by kernel_rfl) (by simp) ?_
    refine AllReadyH.cons (o := _) rfl (fun K hK => ?_) AllReadyH.nil
    go_simp
    refine hK.out _ _ b6 (fun hHeld => ?_)
    clear hK K
    try simp only [Act.put, List.setIfInBounds_toArray, List.set_cons_zero, List.set_cons_succ]
    refine wpAnyH_done (by kernel_rfl) ?_ _
    refine NoPanic.normal ?_
    go_wp2_with fail
    go_ret
    exact ret_bl (by simp) (bx_low b6)
end Go.Proofs.YtoehakekjlebdaaDoor
