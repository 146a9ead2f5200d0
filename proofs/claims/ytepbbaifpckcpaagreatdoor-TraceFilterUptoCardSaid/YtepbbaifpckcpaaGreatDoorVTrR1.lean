/- The contract of awake. -/
import Derived.Great.Walk
import Derived.Test.YtepbbaifpckcpaaGreatDoorVPl
import Derived.Test.YtepbbaifpckcpaaGreatDoorVTrO1
import Derived.Test.YtepbbaifpckcpaaGreatDoorVTb
import Derived.Test.YtepbbaifpckcpaaGreatDoorVTc
namespace Go.Proofs.YtepbbaifpckcpaaGreatDoor
open Go.RowKit
def exP0 : Pt := ⟨3, 1, 1, 0, 2, [103, 101, 116, 32, 97], [], ms0⟩
def exP1 : Pt := ⟨5, 2, 1, 0, 2, [], [110, 111, 110, 101], ms0⟩
def exL : List Pt := [exP0, exP1]
def exO : Opn := ⟨1, 0, 1, [103, 101, 116, 32, 97], [110, 111, 110, 101]⟩
def exT : List UInt8 := [51, 32, 105, 110, 118, 111, 107, 101, 32, 49, 32, 50, 32, 34, 103, 101, 116, 32, 97, 34, 10]
theorem exP0_ok (w : World) : exP0.ok w := ⟨by simp [exP0, I64], ms0_ok w⟩
theorem exP1_ok (w : World) : exP1.ok w := ⟨by simp [exP1, I64], ms0_ok w⟩
theorem exP0_good (E : List UInt8 → Bool) : goodPt E exP0 = true := by
 have h1 : eqPt exP0 (keptPt exP0) = true := by
  have e : keptPt exP0 = exP0 := rfl
  rw [e]
  simp [eqPt, sameT_self]
 have h2 : opOk exP0.text = true := by decide +kernel
 unfold goodPt
 rw [h1, show headOk exP0 = true from by decide +kernel, show whoOk exP0 = true from by decide +kernel, show kindPt E exP0 = (numOk exP0.number && opOk exP0.text) from rfl, h2]
 decide +kernel
theorem exL_valid (E : List UInt8 → Bool) : vTr E [exP0] = 0 := by
 unfold vTr
 rw [if_neg (by decide)]
 have h : goodAll E [exP0] = true := by
  unfold goodAll
  rw [show (List.range [exP0].length) = [0] from rfl]
  simp only [List.all_cons, List.all_nil, Bool.and_true]
  rw [goodFrom_at E [exP0] 0 (by decide) (.inl rfl)]
  rw [show [exP0][0] = exP0 from rfl, exP0_good]
  rfl
 rw [h]
 rfl
theorem ex_line : lineOf exP0 = exT := by decide +kernel
theorem ex_fmt (E : List UInt8 → Bool) : fmtT E [exP0] = exT ∧ fmtE E [exP0] = 0 := by
 have h : linesOf [exP0] = exT := by
  show lineOf exP0 ++ [] = _
  rw [ex_line, List.append_nil]
 unfold fmtT fmtE
 rw [exL_valid, h]
 exact ⟨rfl, rfl⟩
theorem ex_ops : opsFrom 0 exL = [exO] := by decide +kernel
theorem enc0_ms0 : (enc0 ms0).length ≤ 1000000 := by
 unfold enc0
 split
 · next h => exact absurd h (by decide +kernel)
 · simp
theorem exL_few : fewLn [exP0] := fun x hx => by
 simp only [List.mem_singleton] at hx
 subst hx
 exact ⟨ms0_sz, by decide, by decide, enc0_ms0⟩
theorem PtsIn.take {w : World} {A : Option Addr} {l : List Pt} (h : PtsIn w A l) (k : Nat) (_hk : k ≤ l.length) : PtsIn w A (l.take k) := by
 refine ⟨⟨by rw [flat_len ptC 28 ptC_len], fun hj => ?_⟩, fun x hx => h.2 x (List.mem_of_mem_take hx)⟩
 have e : l.flatMap ptC = (l.take k).flatMap ptC ++ (l.drop k).flatMap ptC := by rw [← List.flatMap_append, List.take_append_drop]
 obtain ⟨b, o, e1, hb, hc⟩ := h.1.cells (by rw [e, List.length_append]; omega)
 exact ⟨b, o, e1, hb, fun j u hu => hc j u (by rw [e, List.getElem?_append_left (List.getElem?_eq_some_iff.1 hu).1]; exact hu)⟩
theorem pts_new (w : World) (l : List Pt) (hok : ∀ x ∈ l, x.ok w) : PtsIn (w.alloc (.cells (l.flatMap ptC).toArray 40)) (some ⟨w.heap.size, 0, none⟩) l := by
 refine ⟨⟨flat_len ptC 28 ptC_len _, fun hj => ⟨w.heap.size, 0, rfl, by simp, fun j u hu => ?_⟩⟩, fun x hx => Pt.below (hok x hx) (below_new _ _)⟩
 rw [Nat.zero_add]
 exact (Vr.new w (l.flatMap ptC) 40).cells j u hu
set_option maxRecDepth 100000 in
set_option maxHeartbeats 4000000 in
theorem awake_any (w : World) (he : Env w) : Calls Tryz.prog 10 #[] w (RetBool true w) := by
 have HP := hD (pts_new w exL (fun x hx => by
  simp only [exL, List.mem_cons, List.not_mem_nil, or_false] at hx
  rcases hx with rfl | rfl
  · exact exP0_ok w
  · exact exP1_ok w))
 have HB := hD (below_new w (.cells (exL.flatMap ptC).toArray 40))
 have HFm : Hid (∀ W A c, Below w.heap.size w W → PtsIn W A [exP0] → Calls Tryz.prog 31 #[.slice A 1 c] W (RetStrErr exT 0 W)) := hD (fun W A c hW hp => by
  have h := trFormat_any A c [exP0] W (fun x hx => by
   simp only [List.mem_singleton] at hx
   subst hx
   rfl) (fun _ => false) (fun x hx h3 => by
   simp only [List.mem_singleton] at hx
   subst hx
   exact absurd h3 (by decide)) (he.below hW) hp exL_few (by decide)
  rw [(ex_fmt _).1, (ex_fmt _).2] at h
  exact h)
 clear he
 go_enter Tryz.func10, Tryz.ntmps10
 go_upto_region 2 with (first
  | (refine wpList_buildTo rfl 40 #[(0, .const (.int .i64 3)), (1, .const (.int .i64 1)), (2, .const (.int .i64 1)), (4, .const (.int .i64 2)), (5, .const (.string ⟨#[103, 101, 116, 32, 97]⟩))] rfl _ rfl (ptC exP0).toArray ?_ ?_; · kernel_rfl)
  | (refine wpList_buildTo rfl 40 #[(0, .const (.int .i64 5)), (1, .const (.int .i64 2)), (2, .const (.int .i64 1)), (4, .const (.int .i64 2)), (6, .const (.string ⟨#[110, 111, 110, 101]⟩))] rfl _ rfl (ptC exP1).toArray ?_ ?_; · kernel_rfl)
  | (refine Go.Great.wpList_buildSliceTo rfl 22 40 2 _ rfl w.heap.size rfl _ rfl Tryz.underlying22 (exL.flatMap ptC).toArray ?_ ?_; · kernel_rfl))
 generalize w.alloc (.cells (exL.flatMap ptC).toArray 40) = w1 at HP HB ⊢
 generalize w.heap.size = b1 at HP ⊢
 have HP1 := hD (HP.out.take 1 (by decide))
 go_wp2_with fail
 refine (HFm.out w1 _ _ HB.out HP1.out).mono ?_
 rintro e w2 ⟨rfl, hs⟩
 have HP := hD (HP.out.below hs)
 have HB := hD (bon HB.out hs)
 clear hs HP1
 go_wp2_with fail
 refine (clonePt_any _ _ exL w2 HP.out.1 (by decide)).mono ?_
 rintro e w3 ⟨A3, c3, rfl, hown, hs⟩
 obtain ⟨hp3, hc3, hm3⟩ := pts_own hown HP.out.2 hs
 have HP3 := hD hp3
 have HB := hD (bon HB.out hs)
 clear hs hown hp3
 go_wp2_with fail
 refine (trOperations_any A3 c3 exL w3 HP3.out (by decide) hc3 hm3).mono ?_
 rintro e w4 ⟨A4, c4, rfl, hrd, hs⟩
 rw [ex_ops] at hrd
 have HR4 := hD hrd
 have HB := hD (bon HB.out hs)
 clear hs hrd hc3 hm3 HP3
 rw [show (opsFrom 0 exL).length = 1 from by rw [ex_ops]; rfl]
 have HSm : Hid (∀ W b, b = W.heap.size → Below w4.heap.size w4 W → Calls Tryz.prog 17 #[.slice A4 1 c4, .slice (some ⟨b, 0, none⟩) 1 1] (W.alloc (.cells #[.int .i64 1, .int .i64 0, .int .i64 1, .string ⟨#[103, 101, 116, 32, 97]⟩, .string ⟨#[110, 111, 110, 101]⟩] 44)) fun e w' => e = .returned (.bool true) ∧ Below W.heap.size W w') := hD (fun W b hb hW => by
  subst hb
  have h := sameOps_any A4 (some ⟨W.heap.size, 0, none⟩) c4 1 [exO] [exO] (W.alloc (.cells #[.int .i64 1, .int .i64 0, .int .i64 1, .string ⟨#[103, 101, 116, 32, 97]⟩, .string ⟨#[110, 111, 110, 101]⟩] 44)) (HR4.out.below (bon hW (below_new _ _))) ⟨rfl, fun _ => ⟨W.heap.size, 0, rfl, by simp, fun j u hu => by
   rw [Nat.zero_add]
   exact (Vr.new W (opC exO) 44).cells j u hu⟩⟩ (by decide) (by decide)
  exact h.mono fun e w' ⟨he, q, hw⟩ => ⟨by rw [he]; simp, by rw [hw]; exact bon (below_new _ _) (draws_below _ q)⟩)
 go_wp2_with fail
 refine (HSm.out w4 w4.heap.size rfl (Below.refl _ _)).mono ?_
 rintro e w5 ⟨rfl, hs⟩
 have HB := hD (bon HB.out hs)
 clear hs
 go_wp2_with fail
 go_ret
 exact ret_bl rfl HB.out
end Go.Proofs.YtepbbaifpckcpaaGreatDoor
