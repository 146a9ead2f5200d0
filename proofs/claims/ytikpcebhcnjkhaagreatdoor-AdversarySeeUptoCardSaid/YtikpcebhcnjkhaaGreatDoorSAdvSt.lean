/- EqualStatus; statuses alike. -/
import Derived.Test.YtikpcebhcnjkhaaGreatDoorSPl
import Derived.Test.YtikpcebhcnjkhaaGreatDoorSRc
import Derived.Test.YtikpcebhcnjkhaaGreatDoorSA4
import Derived.Test.YtikpcebhcnjkhaaGreatDoorSVa
namespace Go.Proofs.YtikpcebhcnjkhaaGreatDoor
open Go.RowKit
theorem Vz.newA (w : World) (cs : List Value) (T : TypeId) {b : Nat} (hb : b = w.heap.size) : Vz (w.alloc (.cells cs.toArray T)) b cs := hb ▸ Vz.new w cs T
theorem infoStn (x : St) : (Tryz.prog.info? 62).map (·.size) = some (stC x).length := by
 have : (Tryz.prog.info? 62).map (·.size) = some 12 := by kernel_rfl
 exact this
def eqT (a b : List UInt8) : Bool := a == b
theorem eqT_self (a : List UInt8) : eqT a a = true := by simp [eqT]
set_option maxRecDepth 100000 in
set_option maxHeartbeats 2000000 in
theorem refEqualStatus_any (a b : St) (w : World) (ha : a.ok w) (hb : b.ok w) (sa : a.sz ≤ 16777216) (sb : b.sz ≤ 16777216) : Calls Tryz.prog 39 #[.agg (stC a).toArray, .agg (stC b).toArray] w (RetBool (eqT (encSt a) (encSt b)) w) := by
 obtain ⟨wq, hwq⟩ : ∃ wq, wq = (w.alloc (.cells (stC a).toArray 62)).alloc (.cells (stC b).toArray 62) := ⟨_, rfl⟩
 have HVa : Hid (Vz wq w.heap.size (stC a)) := hD (by rw [hwq]; exact (Vz.new w (stC a) 62).below (below_new _ _))
 have HVb : Hid (Vz wq (w.heap.size + 1) (stC b)) := hD (by rw [hwq]; exact Vz.newA _ (stC b) 62 (by simp))
 have HBq : Hid (Below w.heap.size w wq) := hD (by rw [hwq]; exact bon (below_new _ _) (below_new _ _))
 have HRa : Hid (∀ W, Below wq.heap.size wq W → W.rangeAt w.heap.size 0 (stC a)) := hD (fun W h => (HVa.out.below h).range)
 have HRb : Hid (∀ W, Below wq.heap.size wq W → W.rangeAt (w.heap.size + 1) 0 (stC b)) := hD (fun W h => (HVb.out.below h).range)
 have HLow : Hid (∀ W, Below wq.heap.size wq W → Below w.heap.size w W) := hD (fun W h => bon HBq.out h)
 have HCa : Hid (∀ W, Below wq.heap.size wq W → Calls Tryz.prog 57 #[.agg (stC a).toArray] W fun e W' => e = .returned (.string ⟨(encSt a).toArray⟩) ∧ Below wq.heap.size wq W') := hD (fun W h => (refStatus_any a W (St.below ha (HLow.out W h)) sa).mono fun e W' ⟨he, hw⟩ => ⟨he, bon h hw⟩)
 have HCb : Hid (∀ W, Below wq.heap.size wq W → Calls Tryz.prog 57 #[.agg (stC b).toArray] W fun e W' => e = .returned (.string ⟨(encSt b).toArray⟩) ∧ Below wq.heap.size wq W') := hD (fun W h => (refStatus_any b W (St.below hb (HLow.out W h)) sb).mono fun e W' ⟨he, hw⟩ => ⟨he, bon h hw⟩)
 have hwq2 : (w.alloc (.cells (stC a).toArray 62)).alloc (.cells (stC b).toArray 62) = wq := hwq.symm
 have HWq := hD hwq2
 clear ha hb sa sb hwq hwq2 HVa HVb HBq
 generalize encSt a = la at HCa ⊢
 generalize encSt b = lb at HCb ⊢
 go_enter Tryz.func39, Tryz.ntmps39
 go_upto_region 1 with fail
 rw [HWq.out]
 refine wp_region_noPanic ?_
 refine wp_region_held_drew (S := fun W => Below wq.heap.size wq W) (by kernel_rfl) ((Below.refl _ _).drew) (fun hHeld => ?_)
 refine tkq 0 rfl (yieldsIf_load_mid (by rfl) 62 _ (by rfl) _ 0 (by rfl) (stC a) _ HRa.out Tryz.underlying62 rfl (infoStn a)) (by assumption) ?_
 try simp only [Act.put,qk1,qk2,qk3,qk4,qk6]
 refine tkq 2 rfl (yieldsIf_load_mid (by rfl) 62 _ (by rfl) _ 0 (by rfl) (stC b) _ HRb.out Tryz.underlying62 rfl (infoStn b)) (by assumption) ?_
 try simp only [Act.put,qk1,qk2,qk3,qk4,qk5,qk6]
 refine tkr 1 rfl (fun K hK => ?_)
 go_simp
 go_at_call 57
 refine (HCa.out _ (by assumption)).mono ?_
 rintro e w4 ⟨rfl, bw4⟩
 go_wp2_with fail
 refine hK.out _ _ bw4 (fun hHeld => ?_)
 clear hK K
 try simp only [Act.put,qk1,qk2,qk3,qk4,qk5,qk6]
 refine tkr 3 rfl (fun K hK => ?_)
 go_simp
 go_at_call 57
 refine (HCb.out _ (by assumption)).mono ?_
 rintro e w5 ⟨rfl, bw5⟩
 go_wp2_with fail
 refine hK.out _ _ bw5 (fun hHeld => ?_)
 clear hK K
 try simp only [Act.put,qk1,qk2,qk3,qk4,qk5,qk6]
 refine takes [4] ?_
 refine tkr 5 rfl (fun K hK => ?_)
 go_simp
 refine hK.out _ _ bw5 (fun hHeld => ?_)
 clear hK K
 try simp only [Act.put,qk1,qk2,qk3,qk4,qk5,qk6]
 refine wpAnyH_done (by kernel_rfl) ?_ _
 refine NoPanic.normal ?_
 go_wp2_with fail
 go_ret
 exact ret_bl rfl (HLow.out _ bw5)
theorem st_er {a b : St} (h : a.er = b.er) : a.server = b.server ∧ a.view = b.view ∧ a.length = b.length ∧ a.lockView = b.lockView ∧ a.lock = b.lock ∧ a.cert.l = b.cert.l ∧ a.signed = b.signed := by
 obtain ⟨a1, a2, a3, a4, a5, ⟨_, _, a6⟩, a7⟩ := a
 obtain ⟨b1, b2, b3, b4, b5, ⟨_, _, b6⟩, b7⟩ := b
 simp only [St.er, Sl.er, St.mk.injEq, Sl.mk.injEq, true_and] at h
 exact h
theorem st_er_mk {a b : St} (h : a.server = b.server ∧ a.view = b.view ∧ a.length = b.length ∧ a.lockView = b.lockView ∧ a.lock = b.lock ∧ a.cert.l = b.cert.l ∧ a.signed = b.signed) : a.er = b.er := by
 obtain ⟨a1, a2, a3, a4, a5, ⟨_, _, a6⟩, a7⟩ := a
 obtain ⟨b1, b2, b3, b4, b5, ⟨_, _, b6⟩, b7⟩ := b
 simp only [St.er, Sl.er, St.mk.injEq, Sl.mk.injEq, true_and]
 exact h
def sameSt (a b : St) : Bool := decide (a.server = b.server) && decide (a.view = b.view) && decide (a.length = b.length) && decide (a.lockView = b.lockView) && decide (a.lock = b.lock) && decide (a.cert.l = b.cert.l) && decide (a.signed = b.signed)
theorem sameSt_iff (a b : St) : sameSt a b = true ↔ a.er = b.er := by
 unfold sameSt
 simp only [Bool.and_eq_true, decide_eq_true_eq]
 exact ⟨fun h => st_er_mk ⟨h.1.1.1.1.1.1, h.1.1.1.1.1.2, h.1.1.1.1.2, h.1.1.1.2, h.1.1.2, h.1.2, h.2⟩, fun h => by have := st_er h; exact ⟨⟨⟨⟨⟨⟨this.1, this.2.1⟩, this.2.2.1⟩, this.2.2.2.1⟩, this.2.2.2.2.1⟩, this.2.2.2.2.2.1⟩, this.2.2.2.2.2.2⟩⟩
theorem same_enc (a b : St) (w : World) (ha : a.ok w) (hb : b.ok w) (sa : a.sz ≤ 16777216) (sb : b.sz ≤ 16777216) : eqT (encSt b) (encSt a) = sameSt a b := by
 rw [Bool.eq_iff_iff, sameSt_iff]
 unfold eqT
 rw [beq_iff_eq]
 constructor
 · intro h
   have h1 := rdSt_put a w ha sa
   have h2 := rdSt_put b w hb sb
   rw [h, h1] at h2
   injection h2 with h2
   injection h2 with h2
 · intro h
   rw [← encSt_er a, ← encSt_er b, h]
end Go.Proofs.YtikpcebhcnjkhaaGreatDoor
