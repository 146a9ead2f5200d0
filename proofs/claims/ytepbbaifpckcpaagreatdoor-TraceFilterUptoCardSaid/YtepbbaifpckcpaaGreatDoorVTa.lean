/- Equal of messages, on both sides. -/
import Derived.Deep.Cut
import Derived.Maps.OwnSet
import Derived.Maps.StringElems
import Derived.Lib.SmallJoins
import Derived.Test.YtepbbaifpckcpaaGreatDoorVPl
import Derived.Test.YtepbbaifpckcpaaGreatDoorVMs
namespace Go.Proofs.YtepbbaifpckcpaaGreatDoor
open Go.RowKit
def sameT (a b : List UInt8) : Bool := a == b
theorem sameT_self (a : List UInt8) : sameT a a = true := by simp [sameT]
theorem two_boxes (a b : Ms) (w wq : World) (T : TypeId) (h : wq = (w.alloc (.cells (msC a).toArray T)).alloc (.cells (msC b).toArray T)) :
    Hid (∀ W, Below wq.heap.size wq W → W.rangeAt w.heap.size 0 (msC a)) ∧ Hid (∀ W, Below wq.heap.size wq W → W.rangeAt (w.heap.size + 1) 0 (msC b)) ∧ Hid (∀ W, Below wq.heap.size wq W → Below w.heap.size w W) := by
 have h1 : Bx w (msC a) T wq := by rw [h]; exact bx_alloc (bx_new _ _ _) _
 have h2 : ∀ j v, (msC b)[j]? = some v → wq.cell? ⟨w.heap.size + 1, j, none⟩ = some v := fun j v hv => by rw [h]; exact new_cell _ (msC b) T _ (by simp) j v hv
 have hs : wq.heap.size = w.heap.size + 2 := by rw [h]; simp
 refine ⟨hD (fun W hb j v hv => ?_), hD (fun W hb j v hv => ?_), hD (fun W hb => (bx_low h1).trans (hb.mono (by omega)))⟩
 · rw [Nat.zero_add]
   exact (hb.cell (p := ⟨w.heap.size, j, none⟩) (by show w.heap.size < _; omega)).trans (bx_cell h1 j v hv)
 · rw [Nat.zero_add]
   exact (hb.cell (p := ⟨w.heap.size + 1, j, none⟩) (by show w.heap.size + 1 < _; omega)).trans (h2 j v hv)
set_option maxRecDepth 100000 in
set_option maxHeartbeats 8000000 in
theorem msgEqual_any (a b : Ms) (w : World) (ha : a.ok w) (hb : b.ok w) (sa : a.sz ≤ 16777216) (sb : b.sz ≤ 16777216) : Calls Tryz.prog 92 #[.agg (msC a).toArray, .agg (msC b).toArray] w (RetBool (sameT (encMs a) (encMs b)) w) := by
 obtain ⟨wq, hwq⟩ : ∃ wq, wq = (w.alloc (.cells (msC a).toArray 38)).alloc (.cells (msC b).toArray 38) := ⟨_, rfl⟩
 obtain ⟨HRa, HRb, HLow⟩ := two_boxes a b w wq 38 hwq
 have HCa : Hid (∀ W, Below wq.heap.size wq W → Calls Tryz.prog 115 #[.agg (msC a).toArray] W fun e W' => e = .returned (.string ⟨(encMs a).toArray⟩) ∧ Below wq.heap.size wq W') := hD (fun W h => (code_any a W (Ms.below ha (HLow.out W h)) sa).mono fun e W' ⟨he, hw⟩ => ⟨he, bon h hw⟩)
 have HCb : Hid (∀ W, Below wq.heap.size wq W → Calls Tryz.prog 115 #[.agg (msC b).toArray] W fun e W' => e = .returned (.string ⟨(encMs b).toArray⟩) ∧ Below wq.heap.size wq W') := hD (fun W h => (code_any b W (Ms.below hb (HLow.out W h)) sb).mono fun e W' ⟨he, hw⟩ => ⟨he, bon h hw⟩)
 have HWq := hD hwq
 clear ha hb sa sb hwq
 generalize encMs a = la at HCa ⊢
 generalize encMs b = lb at HCb ⊢
 go_enter Tryz.func92, Tryz.ntmps92
 go_upto_region 1 with fail
 rw [← HWq.out]
 refine wp_region_noPanic ?_
 refine wp_region_held_drew (S := fun W => Below wq.heap.size wq W) (by kernel_rfl) ((Below.refl _ _).drew) (fun hHeld => ?_)
 refine tkq 0 rfl (yieldsIf_load_mid (by rfl) 38 _ (by rfl) _ 0 (by rfl) (msC a) _ HRa.out Tryz.underlying38 rfl (infoMs a)) (by assumption) ?_
 try simp only [Act.put,qk1]
 refine tkq 2 rfl (yieldsIf_load_mid (by rfl) 38 _ (by rfl) _ 0 (by rfl) (msC b) _ HRb.out Tryz.underlying38 rfl (infoMs b)) (by assumption) ?_
 try simp only [Act.put]
 refine tkr 1 rfl (fun K hK => ?_)
 go_simp
 go_at_call 115
 refine (HCa.out _ (by assumption)).mono ?_
 rintro e w4 ⟨rfl, b4⟩
 go_wp2_with fail
 refine hK.out _ _ b4 (fun hHeld => ?_)
 clear hK K
 try simp only [Act.put,qk1,qk2,qk3]
 refine tkr 3 rfl (fun K hK => ?_)
 go_simp
 go_at_call 115
 refine (HCb.out _ (by assumption)).mono ?_
 rintro e w5 ⟨rfl, b5⟩
 go_wp2_with fail
 refine hK.out _ _ b5 (fun hHeld => ?_)
 clear hK K
 try simp only [Act.put,qk1,qk2,qk3]
 refine tkq 4 rfl (v := ?_) (.inl ⟨by rfl, ?_⟩) (by assumption) ?_
 rotate_left
 · intro w hSw; (try dsimp only at hSw); go_simp; try with_reducible rfl
 try simp only [Act.put,qk1]
 refine tkr 5 rfl (fun K hK => ?_)
 go_simp
 refine hK.out _ _ b5 (fun hHeld => ?_)
 clear hK K
 try simp only [Act.put,qk1,qk2,qk3]
 refine wpAnyH_done (by kernel_rfl) ?_ _
 refine NoPanic.normal ?_
 go_wp2_with fail
 go_ret
 exact ret_bl rfl (HLow.out _ b5)
set_option maxRecDepth 100000 in
set_option maxHeartbeats 8000000 in
theorem refEqual_any (a b : Ms) (w : World) (ha : a.ok w) (hb : b.ok w) (sa : a.sz ≤ 16777216) (sb : b.sz ≤ 16777216) : Calls Tryz.prog 25 #[.agg (msC a).toArray, .agg (msC b).toArray] w (RetBool (sameT (encMs a) (encMs b)) w) := by
 obtain ⟨wq, hwq⟩ : ∃ wq, wq = (w.alloc (.cells (msC a).toArray 38)).alloc (.cells (msC b).toArray 38) := ⟨_, rfl⟩
 obtain ⟨HRa, HRb, HLow⟩ := two_boxes a b w wq 38 hwq
 have HCa : Hid (∀ W, Below wq.heap.size wq W → Calls Tryz.prog 46 #[.agg (msC a).toArray] W fun e W' => e = .returned (.string ⟨(encMs a).toArray⟩) ∧ Below wq.heap.size wq W') := hD (fun W h => (refEncode_any a W (Ms.below ha (HLow.out W h)) sa).mono fun e W' ⟨he, hw⟩ => ⟨he, bon h hw⟩)
 have HCb : Hid (∀ W, Below wq.heap.size wq W → Calls Tryz.prog 46 #[.agg (msC b).toArray] W fun e W' => e = .returned (.string ⟨(encMs b).toArray⟩) ∧ Below wq.heap.size wq W') := hD (fun W h => (refEncode_any b W (Ms.below hb (HLow.out W h)) sb).mono fun e W' ⟨he, hw⟩ => ⟨he, bon h hw⟩)
 have HWq := hD hwq
 clear ha hb sa sb hwq
 generalize encMs a = la at HCa ⊢
 generalize encMs b = lb at HCb ⊢
 go_enter Tryz.func25, Tryz.ntmps25
 go_upto_region 1 with fail
 rw [← HWq.out]
 refine wp_region_noPanic ?_
 refine wp_region_held_drew (S := fun W => Below wq.heap.size wq W) (by kernel_rfl) ((Below.refl _ _).drew) (fun hHeld => ?_)
 refine tkq 0 rfl (yieldsIf_load_mid (by rfl) 38 _ (by rfl) _ 0 (by rfl) (msC a) _ HRa.out Tryz.underlying38 rfl (infoMs a)) (by assumption) ?_
 try simp only [Act.put,qk1]
 refine tkq 2 rfl (yieldsIf_load_mid (by rfl) 38 _ (by rfl) _ 0 (by rfl) (msC b) _ HRb.out Tryz.underlying38 rfl (infoMs b)) (by assumption) ?_
 try simp only [Act.put]
 refine tkr 1 rfl (fun K hK => ?_)
 go_simp
 go_at_call 46
 refine (HCa.out _ (by assumption)).mono ?_
 rintro e w4 ⟨rfl, b4⟩
 go_wp2_with fail
 refine hK.out _ _ b4 (fun hHeld => ?_)
 clear hK K
 try simp only [Act.put,qk1,qk2,qk3]
 refine tkr 3 rfl (fun K hK => ?_)
 go_simp
 go_at_call 46
 refine (HCb.out _ (by assumption)).mono ?_
 rintro e w5 ⟨rfl, b5⟩
 go_wp2_with fail
 refine hK.out _ _ b5 (fun hHeld => ?_)
 clear hK K
 try simp only [Act.put,qk1,qk2,qk3]
 refine tkq 4 rfl (v := ?_) (.inl ⟨by rfl, ?_⟩) (by assumption) ?_
 rotate_left
 · intro w hSw; (try dsimp only at hSw); go_simp; try with_reducible rfl
 try simp only [Act.put,qk1]
 refine tkr 5 rfl (fun K hK => ?_)
 go_simp
 refine hK.out _ _ b5 (fun hHeld => ?_)
 clear hK K
 try simp only [Act.put,qk1,qk2,qk3]
 refine wpAnyH_done (by kernel_rfl) ?_ _
 refine NoPanic.normal ?_
 go_wp2_with fail
 go_ret
 exact ret_bl rfl (HLow.out _ b5)
open Go.RowKit
theorem infoPt (x : Pt) : (Tryz.prog.info? 40).map (·.size) = some (ptC x).length := by
 have : (Tryz.prog.info? 40).map (·.size) = some 28 := by kernel_rfl
 exact this
theorem ptC_one (x : Pt) : (ptC x).toArray.all (·.oneCell') = true := by
 have h := msC_one' x.msg
 rw [List.all_toArray] at h ⊢
 unfold ptC
 rw [List.all_append, h, Bool.and_true]
 simp [ptH, Value.oneCell']
def pt0 : Pt := ⟨0, 0, 0, 0, 0, [], [], ms0⟩
theorem Vr.msg {w : World} {b : Nat} {x : Pt} (h : Vr w b (ptC x)) : w.rangeAt b 7 (msC x.msg) := fun j v hv => h.cells (7 + j) v (by rw [ptC_msg]; exact hv)
set_option maxHeartbeats 400000 in
theorem trClient_any (n : Int) (w : World) : Calls Tryz.prog 38 #[.int .i64 n] w fun e w' => e = .returned (.bool (isCl n)) ∧ w' = w := by
 by_cases h0 : 0 ≤ n
 · by_cases h1 : n < 6
   · have H : Hid (isCl n = true) := hD (by simp [isCl, h0, h1])
     go_enter Tryz.func38, Tryz.ntmps38
     go_wp2_with fail
     go_ret
     exact ⟨congrArg (fun b => Ending.returned (.bool b)) H.out.symm, rfl⟩
   · have H : Hid (isCl n = false) := hD (by simp [isCl, h1])
     go_enter Tryz.func38, Tryz.ntmps38
     go_wp2_with fail
     go_ret
     exact ⟨congrArg (fun b => Ending.returned (.bool b)) H.out.symm, rfl⟩
 · have H : Hid (isCl n = false) := hD (by simp [isCl, h0])
   go_enter Tryz.func38, Tryz.ntmps38
   go_wp2_with fail
   go_ret
   exact ⟨congrArg (fun b => Ending.returned (.bool b)) H.out.symm, rfl⟩
set_option maxHeartbeats 400000 in
theorem refClient_any (n : Int) (w : World) : Calls Tryz.prog 42 #[.int .i64 n] w fun e w' => e = .returned (.bool (isCl n)) ∧ w' = w := by
 by_cases h0 : 0 ≤ n
 · by_cases h1 : n < 6
   · have H : Hid (isCl n = true) := hD (by simp [isCl, h0, h1])
     go_enter Tryz.func42, Tryz.ntmps42
     go_wp2_with fail
     go_ret
     exact ⟨congrArg (fun b => Ending.returned (.bool b)) H.out.symm, rfl⟩
   · have H : Hid (isCl n = false) := hD (by simp [isCl, h1])
     go_enter Tryz.func42, Tryz.ntmps42
     go_wp2_with fail
     go_ret
     exact ⟨congrArg (fun b => Ending.returned (.bool b)) H.out.symm, rfl⟩
 · have H : Hid (isCl n = false) := hD (by simp [isCl, h0])
   go_enter Tryz.func42, Tryz.ntmps42
   go_wp2_with fail
   go_ret
   exact ⟨congrArg (fun b => Ending.returned (.bool b)) H.out.symm, rfl⟩
set_option maxHeartbeats 400000 in
theorem trServer_any (n : Int) (w : World) : Calls Tryz.prog 41 #[.int .i64 n] w fun e w' => e = .returned (.bool (isSv n)) ∧ w' = w := by
 by_cases h0 : 0 ≤ n
 · by_cases h1 : n < 12
   · have H : Hid (isSv n = true) := hD (by simp [isSv, h0, h1])
     go_enter Tryz.func41, Tryz.ntmps41
     go_wp2_with fail
     go_ret
     exact ⟨congrArg (fun b => Ending.returned (.bool b)) H.out.symm, rfl⟩
   · have H : Hid (isSv n = false) := hD (by simp [isSv, h1])
     go_enter Tryz.func41, Tryz.ntmps41
     go_wp2_with fail
     go_ret
     exact ⟨congrArg (fun b => Ending.returned (.bool b)) H.out.symm, rfl⟩
 · have H : Hid (isSv n = false) := hD (by simp [isSv, h0])
   go_enter Tryz.func41, Tryz.ntmps41
   go_wp2_with fail
   go_ret
   exact ⟨congrArg (fun b => Ending.returned (.bool b)) H.out.symm, rfl⟩
set_option maxHeartbeats 400000 in
theorem refServer_any (n : Int) (w : World) : Calls Tryz.prog 43 #[.int .i64 n] w fun e w' => e = .returned (.bool (isSv n)) ∧ w' = w := by
 by_cases h0 : 0 ≤ n
 · by_cases h1 : n < 12
   · have H : Hid (isSv n = true) := hD (by simp [isSv, h0, h1])
     go_enter Tryz.func43, Tryz.ntmps43
     go_wp2_with fail
     go_ret
     exact ⟨congrArg (fun b => Ending.returned (.bool b)) H.out.symm, rfl⟩
   · have H : Hid (isSv n = false) := hD (by simp [isSv, h1])
     go_enter Tryz.func43, Tryz.ntmps43
     go_wp2_with fail
     go_ret
     exact ⟨congrArg (fun b => Ending.returned (.bool b)) H.out.symm, rfl⟩
 · have H : Hid (isSv n = false) := hD (by simp [isSv, h0])
   go_enter Tryz.func43, Tryz.ntmps43
   go_wp2_with fail
   go_ret
   exact ⟨congrArg (fun b => Ending.returned (.bool b)) H.out.symm, rfl⟩
set_option maxRecDepth 100000 in
set_option maxHeartbeats 2000000 in
theorem few53_any (A : Option Addr) (c : Nat) (l : List Pt) (w : World) (hp : PtsIn w A l) (hs : ∀ x ∈ l, x.msg.sz ≤ 16777216) (hn : l.length ≤ 1099511627776) :
    Calls Tryz.prog 11 #[.slice A l.length c] w (RetBool (ptsFew l) w) := by
 have HP := hD hp
 have HS := hD hs
 clear hp hs
 have HB0 := hD (Below.refl w.heap.size w)
 go_enter Tryz.func11, Tryz.ntmps11
 go_wp2_with fail
 go_loopw [3] (fun i wr => ∃ k : Nat, i = .int .i64 k ∧ k ≤ l.length ∧ (l.take k).all ptFew = true ∧ Below w.heap.size w wr) (fun i _ => l.length - (intOf i).toNat)
 case atStart => exact ⟨0, rfl, by omega, by simp, HB0.out⟩
 case round =>
  obtain ⟨k, rfl, hk, hA, hB0⟩ := hrel
  have HA := hD hA
  have HB := hD hB0
  clear hA hB0
  by_cases hlt : k < l.length
  · have i0' : (0 : Int) ≤ (k : Int) := by omega
    have i1 : (k : Int) < (l.length : Int) := by omega
    obtain ⟨b, off, rfl, hg, hcc⟩ := HP.out.at hlt
    obtain ⟨x, hx⟩ : ∃ x, x = l[k] := ⟨_, rfl⟩
    have HRg := hD (hcc wr HB.out)
    rw [← hx] at HRg
    have HT : Hid ((l.take (k + 1)).all ptFew = ptFew x) := hD (by rw [all_take l ptFew k hlt, HA.out, hx]; rfl)
    have HN : Hid (ptFew x = false → ptsFew l = false) := hD (fun h => by unfold ptsFew; rw [all_take_no l ptFew k hlt (by rw [← hx]; exact h)]; rfl)
    have HF : Hid (∀ W, Below w.heap.size w W → Calls Tryz.prog 35 #[.agg (msC x.msg).toArray] W (RetBool (fewMs x.msg) W)) := hD (fun W hW => few_any x.msg W (Ms.below (HP.out.2 x (hx ▸ List.getElem_mem hlt)).2 hW) (HS.out x (hx ▸ List.getElem_mem hlt)))
    have HX0 := hD (Vr.new wr (ptC pt0) 40)
    have HX := hD (HX0.out.sets (ptC x) rfl)
    have HB3 := hD (below_gr (bon HB.out (below_new wr (.cells (ptC pt0).toArray 40))) (grown_vs (b := wr.heap.size) (ptC x)) HB.out.size)
    clear hcc hx
    go_upto_region 5 with (first
     | (refine wpList_load_mid rfl 40 _ rfl b (off + k * 28) rfl (ptC x) _ HRg.out Tryz.underlying40 rfl (infoPt x) ?_)
     | (refine wpList_store_mid rfl 40 _ _ rfl wr.heap.size 0 (ptC x).toArray rfl rfl ?_ (infoPt x) (ptC_one x) ?_; · exact HX0.out.there rfl))
    try simp only [List.toList_toArray]
    clear HX0 HRg
    change Code.wp _ _ _ _ ((wr.alloc (.cells (ptC pt0).toArray 40)).setCells wr.heap.size 0 (ptC x))
    generalize (wr.alloc (.cells (ptC pt0).toArray 40)).setCells wr.heap.size 0 (ptC x) = w3 at HX HB3 ⊢
    generalize wr.heap.size = b3 at HX ⊢
    have c5 := HX.out.cells 5 _ rfl
    have c6 := HX.out.cells 6 _ rfl
    have l3 := HX.out.lt
    by_cases h1 : x.text.length ≤ 2100
    · have k1 : ¬ ((2100 : Int) < (x.text.length : Int)) := by omega
      by_cases h2 : x.result.length ≤ 500
      · have k2 : ¬ ((500 : Int) < (x.result.length : Int)) := by omega
        have HZ : Hid (ptFew x = fewMs x.msg) := hD (by simp [ptFew, h1, h2])
        go_wp2_with (refine wpList_load_wanted (by rfl) 38 _ rfl b3 7 rfl (msC x.msg) _ HX.out.msg Tryz.underlying38 rfl (infoMsn x.msg) ?_)
        refine (HF.out _ HB3.out).mono ?_
        rintro e w4 ⟨rfl, b4⟩
        have HB4 := hD (bon HB3.out b4)
        clear b4
        cases hq : fewMs x.msg with
        | false =>
         have HR : Hid (ptsFew l = false) := hD (HN.out (by rw [HZ.out, hq]))
         clear hq
         go_wp2_with fail
         go_ret
         exact ret_bl HR.out HB4.out
        | true =>
         have HR : Hid ((l.take (k + 1)).all ptFew = true) := hD (by rw [HT.out, HZ.out, hq])
         clear hq
         go_wp2_with fail
         go_roundw
         case rel => exact ⟨k + 1, by go_num, by omega, HR.out, HB4.out⟩
         case measure => simp [intOf]; omega
      · have k2 : (500 : Int) < (x.result.length : Int) := by omega
        have HR : Hid (ptsFew l = false) := hD (HN.out (by simp [ptFew, h2]))
        go_wp2_with fail
        go_ret
        exact ret_bl HR.out HB3.out
    · have k1 : (2100 : Int) < (x.text.length : Int) := by omega
      have HR : Hid (ptsFew l = false) := hD (HN.out (by simp [ptFew, h1]))
      go_wp2_with fail
      go_ret
      exact ret_bl HR.out HB3.out
  · obtain rfl : k = l.length := by omega
    have HE : Hid (decide ((l.length : Int) ≤ 40) = ptsFew l) := hD (by
     have := HA.out
     rw [List.take_length] at this
     unfold ptsFew
     rw [this, Bool.true_and, Bool.eq_iff_iff]; simp; omega)
    go_wp2_with fail
    go_ret
    exact ret_bl HE.out.symm HB.out
open Go.RowKit
open Go.Maps (Keyed)
def wordK (k : Int) : List UInt8 := if k = 1 then [105, 110, 118, 111, 107, 101] else if k = 2 then [97, 99, 107] else if k = 3 then [97, 99, 99, 101, 112, 116] else if k = 4 then [100, 101, 99, 105, 100, 101] else if k = 5 then [114, 101, 97, 100] else if k = 6 then [115, 101, 110, 100] else if k = 7 then [99, 114, 97, 115, 104] else if k = 8 then [114, 101, 115, 116, 97, 114, 116] else []
def wordsD : DataW Unit := .map [(.int .i64 1, .lit (.string [105, 110, 118, 111, 107, 101])), (.int .i64 2, .lit (.string [97, 99, 107])), (.int .i64 3, .lit (.string [97, 99, 99, 101, 112, 116])), (.int .i64 4, .lit (.string [100, 101, 99, 105, 100, 101])), (.int .i64 5, .lit (.string [114, 101, 97, 100])), (.int .i64 6, .lit (.string [115, 101, 110, 100])), (.int .i64 7, .lit (.string [99, 114, 97, 115, 104])), (.int .i64 8, .lit (.string [114, 101, 115, 116, 97, 114, 116]))]
def isKind (k : Int) : Bool := decide (1 ≤ k) && decide (k ≤ 8)
theorem same_int (a k : Int) : Lit.sameKey (.int .i64 a) (.int .i64 k) = decide (a = k) := by simp [Lit.sameKey]
theorem words_has (k : Int) : Maps.has wordsD (.int .i64 k) = isKind k := by
 simp only [wordsD, Maps.has, List.any_cons, List.any_nil, same_int, isKind]
 rw [Bool.eq_iff_iff]
 simp only [Bool.or_eq_true, Bool.and_eq_true, decide_eq_true_eq, Bool.or_false]
 omega
theorem words_at (k : Int) : wordsD.atKey (.int .i64 k) (.lit (.string [])) = .lit (.string (wordK k)) := by
 simp only [wordsD, DataW.atKey, List.find?_cons, List.find?_nil, same_int, wordK]
 by_cases h1 : k = 1
 · subst h1; rfl
 by_cases h2 : k = 2
 · subst h2; rfl
 by_cases h3 : k = 3
 · subst h3; rfl
 by_cases h4 : k = 4
 · subst h4; rfl
 by_cases h5 : k = 5
 · subst h5; rfl
 by_cases h6 : k = 6
 · subst h6; rfl
 by_cases h7 : k = 7
 · subst h7; rfl
 by_cases h8 : k = 8
 · subst h8; rfl
 rw [if_neg h1, if_neg h2, if_neg h3, if_neg h4, if_neg h5, if_neg h6, if_neg h7, if_neg h8]
 rw [decide_eq_false (fun e : 1 = k => h1 e.symm), decide_eq_false (fun e : 2 = k => h2 e.symm), decide_eq_false (fun e : 3 = k => h3 e.symm), decide_eq_false (fun e : 4 = k => h4 e.symm), decide_eq_false (fun e : 5 = k => h5 e.symm), decide_eq_false (fun e : 6 = k => h6 e.symm), decide_eq_false (fun e : 7 = k => h7 e.symm), decide_eq_false (fun e : 8 = k => h8 e.symm)]
structure Env (w : World) : Prop where
 pow : Lib.TabIs Tryz.prog w "internal/strconv.uint64pow10" .u64 Lib.pow10Tab
 syn : ∃ t p, w.cell? ⟨5, 0, none⟩ = some (.iface t p)
 rng : ∃ t p, w.cell? ⟨6, 0, none⟩ = some (.iface t p)
 mx : ∃ m, w.cell? ⟨1, 0, none⟩ = some (.int .i64 m)
 words : ∃ b n, w.cell? ⟨0, 0, none⟩ = some (.map (some b)) ∧ w.ownsMap Tryz.prog 3 (plainElem Tryz.prog 9) b n wordsD
theorem ownsMap_below {H : Type} {P : Program} {k : TypeId} {R : Value → Option (DataW H × List MemPlace)} {b n : Nat} {D : DataW H} {w w' : World} (h : w.ownsMap P k R b n D) (hb : Below w.heap.size w w') : w'.ownsMap P k R b n D := by
 have hlt := h.lt
 obtain ⟨es, clock, hbk, F1, hle, hD⟩ := h
 exact ⟨es, clock, by rw [hb.block b hlt]; exact hbk, F1, hle, hD⟩
theorem Env.below {w w' : World} (h : Env w) (hb : Below w.heap.size w w') : Env w' where
 pow := Go.Joins.tab_stays (g := (Tryz.prog.globalNamed "internal/strconv.uint64pow10").getD 0) (by kernel_rfl) h.pow hb (Nat.le_refl _)
 syn := by
  obtain ⟨t, p, e⟩ := h.syn
  exact ⟨t, p, (hb.cell (p := ⟨5, 0, none⟩) (Lib.lt_of_cell e)).trans e⟩
 rng := by
  obtain ⟨t, p, e⟩ := h.rng
  exact ⟨t, p, (hb.cell (p := ⟨6, 0, none⟩) (Lib.lt_of_cell e)).trans e⟩
 mx := by
  obtain ⟨m, e⟩ := h.mx
  exact ⟨m, (hb.cell (p := ⟨1, 0, none⟩) (Lib.lt_of_cell e)).trans e⟩
 words := by
  obtain ⟨b, n, e, h⟩ := h.words
  exact ⟨b, n, (hb.cell (p := ⟨0, 0, none⟩) (Lib.lt_of_cell e)).trans e, ownsMap_below h hb⟩
theorem zero_str (w : World) : (zeroValue 9).run Tryz.prog w = .ok (.string ⟨#[]⟩) w := by kernel_rfl
theorem wf_int {k : Int} (h : I64 k) : (Lit.int .i64 k).wf = true := by
 unfold I64 at h
 simp only [Lit.wf, IntKind.min, IntKind.max, IntKind.signed, IntKind.bits, decide_eq_true_eq, Bool.and_eq_true]
 simp
 omega
theorem words_look {w : World} (he : Env w) (k : Int) (hk : I64 k) : ∃ b, ∀ w', Below w.heap.size w w' → w'.cell? ⟨0, 0, none⟩ = some (.map (some b)) ∧
    (Instr.lookup 90 (.map (some b)) (.int .i64 k) true).run Tryz.prog w' = .ok (.tuple #[.string ⟨(wordK k).toArray⟩, .bool (isKind k)]) w' ∧
    (Instr.lookup 90 (.map (some b)) (.int .i64 k) false).run Tryz.prog w' = .ok (.string ⟨(wordK k).toArray⟩) w' := by
 obtain ⟨b, n, e, hown⟩ := he.words
 refine ⟨b, fun w' hb => ?_⟩
 have ho := ownsMap_below hown hb
 have K : Keyed Tryz.prog 3 := Go.Maps.int_keyed Tryz.underlying3
 have hkey := Go.Maps.keyOf_int_mk Tryz.underlying3 (wf_int hk)
 have hz := plainElem_string (H := Unit) Tryz.underlying9 (s := ⟨#[]⟩) (by decide)
 refine ⟨(hb.cell (p := ⟨0, 0, none⟩) (Lib.lt_of_cell e)).trans e, ?_, ?_⟩
 · obtain ⟨v, ps, hrun, hv⟩ := ho.look_ok K Tryz.underlying90 (zero_str w') hz hkey
   obtain ⟨s, rfl, hs, _⟩ := plainElem_string_inv Tryz.underlying9 hv
   rw [hrun, words_has]
   have h1 : wordsD.atKey (.int .i64 k) (.lit (.string [])) = .lit (.string s.data.toList) := congrArg Prod.fst hs
   rw [words_at] at h1
   simp only [DataW.lit.injEq, Lit.string.injEq] at h1
   rw [h1, str_mk]
 · obtain ⟨v, ps, hrun, hv⟩ := ho.lookup K Tryz.underlying90 (zero_str w') hz hkey
   obtain ⟨s, rfl, hs, _⟩ := plainElem_string_inv Tryz.underlying9 hv
   rw [hrun]
   have h1 : wordsD.atKey (.int .i64 k) (.lit (.string [])) = .lit (.string s.data.toList) := congrArg Prod.fst hs
   rw [words_at] at h1
   simp only [DataW.lit.injEq, Lit.string.injEq] at h1
   rw [h1, str_mk]
open Go.RowKit
/-! operations begin in ascending order, and end behind -/
/-! logs -/
/-! messages -/
/-! valid points -/
def keptPt (x : Pt) : Pt :=
 if x.kind = 1 then ⟨x.time, x.kind, x.who, 0, x.number, x.text, [], ms0⟩ else if x.kind = 2 then ⟨x.time, x.kind, x.who, x.slot, x.number, [], x.result, ms0⟩ else if x.kind = 3 ∨ x.kind = 4 then ⟨x.time, x.kind, x.who, x.slot, 0, x.text, [], ms0⟩ else if x.kind = 5 then ⟨x.time, x.kind, x.who, 0, x.number, x.text, x.result, ms0⟩ else if x.kind = 6 then ⟨x.time, x.kind, x.who, 0, 0, [], [], x.msg⟩ else ⟨x.time, x.kind, x.who, 0, 0, [], [], ms0⟩
def eqPt (a b : Pt) : Bool := decide (a.time = b.time) && decide (a.kind = b.kind) && decide (a.who = b.who) && decide (a.slot = b.slot) && decide (a.number = b.number) && decide (a.text = b.text) && decide (a.result = b.result) && sameT (encMs a.msg) (encMs b.msg)
def ofCl (k : Int) : Bool := decide (k = 1) || decide (k = 2) || decide (k = 3)
def numOk (n : Int) : Bool := decide (1 ≤ n) && decide (n ≤ 1000000)
def kindPt (E : List UInt8 → Bool) (x : Pt) : Bool :=
 if x.kind = 1 then numOk x.number && opOk x.text else if x.kind = 2 then numOk x.number else if x.kind = 3 ∨ x.kind = 4 then E x.text else if x.kind = 5 then isCl x.number && opOk x.text else if x.kind = 6 then decide (vMs x.msg = 0) && decide (x.msg.src = x.who) else true
def whoOk (x : Pt) : Bool := if ofCl x.kind then isCl x.who else isSv x.who
def headOk (x : Pt) : Bool := decide (1 ≤ x.kind) && decide (x.kind ≤ 8) && decide (0 ≤ x.time) && decide (0 ≤ x.slot) && decide (x.slot ≤ 2147483647) && decide (x.result.length ≤ 400)
def goodPt (E : List UInt8 → Bool) (x : Pt) : Bool := headOk x && eqPt x (keptPt x) && whoOk x && kindPt E x
def goodFrom (E : List UInt8 → Bool) (l : List Pt) (k : Nat) : Bool := match l[k]? with
 | none => true
 | some x => goodPt E x && (decide (k = 0) || (match l[k - 1]? with
  | none => true
  | some y => decide (y.time ≤ x.time)))
def goodAll (E : List UInt8 → Bool) (l : List Pt) : Bool := (List.range l.length).all (goodFrom E l)
def vTr (E : List UInt8 → Bool) (l : List Pt) : Int := if 5000 < l.length then 3 else if goodAll E l then 0 else 1
end Go.Proofs.YtepbbaifpckcpaaGreatDoor
