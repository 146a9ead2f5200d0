/- The contract of Few. -/
import Derived.Deep.MidRow
import Derived.Test.YtikpcebhcnjkhaaGreatDoorSPl
import Derived.Test.YtikpcebhcnjkhaaGreatDoorSRc
import Derived.Test.YtikpcebhcnjkhaaGreatDoorSVb
namespace Go.Proofs.YtikpcebhcnjkhaaGreatDoor
open Go.RowKit
def few51 (m : Ms) : Bool := decide ((encMs m).length ≤ 80000) && decide (m.texts.l.length ≤ 600)
set_option maxRecDepth 100000 in
set_option maxHeartbeats 4000000 in
theorem few51_any (m : Ms) (w : World) (hok : m.ok w) (hs : m.sz ≤ 16777216) : Calls Tryz.prog 11 #[.agg (msC m).toArray] w (RetBool (few51 m) w) := by
 have HE : Hid (∀ w1, Below w.heap.size w w1 → Calls Tryz.prog 32 #[.agg (msC m).toArray] w1 (RetStr (encMs m) w1)) := hD (fun w1 hb => refEncode_any m w1 (Ms.below hok hb) hs)
 have hl := encMs_len m w hok hs
 have HB0 := hD (bx_new w (msC m) 50)
 have HRow : Hid (∀ W, Bx w (msC m) 50 W → W.rangeAt w.heap.size 0 (msC m)) := hD (fun W hb j v hv => by rw [Nat.zero_add]; exact bx_cell hb j v hv)
 have HZ : Hid (∀ q : Bool, q = decide (((encMs m).length : Int) ≤ 80000) → (q && decide ((m.texts.l.length : Int) ≤ 600)) = few51 m) := hD (fun q hq => by
  rw [hq]; unfold few51
  rw [Bool.eq_iff_iff]; simp only [Bool.and_eq_true, decide_eq_true_eq]; omega)
 clear hok
 go_enter Tryz.func11, Tryz.ntmps11
 go_wp2_with (refine wpList_load_mid rfl 50 _ rfl _ 0 rfl (msC m) _ (HRow.out _ HB0.out) Tryz.underlying50 rfl (infoMs m) ?_)
 refine (HE.out _ (bx_low HB0.out)).mono ?_
 rintro e w2 ⟨rfl, b2⟩
 have hb2 := bx_on HB0.out b2
 have c20 : w2.cell? ⟨w.heap.size, 20, none⟩ = some (.slice m.texts.a m.texts.l.length m.texts.c) := bx_cell hb2 20 _ rfl
 have HB2 := hD (bx_low hb2)
 clear hb2 b2
 by_cases h1 : (encMs m).length ≤ 80000
 · have HF : Hid (decide ((m.texts.l.length : Int) ≤ 600) = few51 m) := hD (by have := HZ.out true (by symm; rw [decide_eq_true_eq]; omega); simpa using this)
   go_wp2_with fail
   go_ret
   exact ret_bl HF.out.symm HB2.out
 · have HF : Hid (few51 m = false) := hD (by unfold few51; rw [decide_eq_false h1]; rfl)
   go_wp2_with fail
   go_ret
   exact ret_bl HF.out HB2.out
end Go.Proofs.YtikpcebhcnjkhaaGreatDoor
