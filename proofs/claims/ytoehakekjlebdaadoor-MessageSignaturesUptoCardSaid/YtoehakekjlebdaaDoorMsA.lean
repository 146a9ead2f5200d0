/- The contracts of ask, Encode, Few. -/
import Derived.Test.YtoehakekjlebdaaDoorRefZ
import Derived.Test.YtoehakekjlebdaaDoorCodeMs
import Derived.Test.YtoehakekjlebdaaDoorRefMs
import Derived.Laws.Rows
import Derived.Laws.IdiomCopy
namespace Go.Proofs.YtoehakekjlebdaaDoor
open Go.RowKit

theorem below_setCells {B : Nat} {w0 : World} (b : Nat) (hb : B ≤ b) : ∀ (vs : List Value) (o : Nat) (w : World), Below B w0 w → Below B w0 (w.setCells b o vs)
  | [], _, _, h => h
  | v :: r, o, w, h => below_setCells b hb r (o + 1) _ (h.setCell (by simpa using hb) v)
theorem there_new (w : World) (cs : List Value) (T : TypeId) (n : Nat) (hn : n = cs.length) {b : Nat} (hb : b = w.heap.size) : (w.alloc (.cells cs.toArray T)).there b 0 n := fun j hj => by
  subst hn
  subst hb
  rw [Nat.zero_add]
  have hc := new_cell w cs T w.heap.size rfl j cs[j] (List.getElem?_eq_getElem hj)
  refine ⟨by rw [hc]; rfl, ?_⟩
  simp
theorem results_cell_mid {P : Program} {fn : Func} {p : Tmp} {ty : TypeId} (h : fn.results = #[.cell p ty]) (tmps : Array Value) (w : World) (b : Nat) (cs : List Value) (d : TypeDesc)
    (hp : tmps.getD p undef = .pointer (some ⟨b, 0, none⟩)) (hc : w.rangeAt b 0 cs) (hu : P.underlying ty = some d) (hd : d.isRow = true) (hi : (P.info? ty).map (·.size) = some cs.length) :
    (results fn tmps).run P w = .ok (.agg cs.toArray) w := by
  have hp' : tmps[p]?.getD undef = .pointer (some ⟨b, 0, none⟩) := by simpa using hp
  simp [results, h, hp', asAddr, run_loadVar_mid w b 0 ty cs d hc hu hd hi]
/-- the zero message's cells -/
def zeroC : List Value := [.int .i64 0, .int .i64 0, .int .i64 0, .int .i64 0, .int .i64 0, .string ⟨#[]⟩, .int .i64 0, .int .i64 0, .int .i64 0, .int .i64 0, .int .i64 0, .string ⟨#[]⟩, .string ⟨#[]⟩, .slice none 0 0, .slice none 0 0, .int .i64 0, .string ⟨#[]⟩, .slice none 0 0, .slice none 0 0, .slice none 0 0, .slice none 0 0]
def exM : Ms := ⟨1, 1, 2, 3, 0, [], 0, ⟨0, 0, 0, 0, [], []⟩, Sl.nil, Sl.nil, ⟨0, [], Sl.nil, Sl.nil, Sl.nil⟩, Sl.nil⟩
def RetMs (m : Ms) (w : World) (e : Ending) (w' : World) : Prop := e = .returned (.agg (msC m).toArray) ∧ Below w.heap.size w w'
theorem msC_one (m : Ms) : (msC m).toArray.all (·.oneCell') = true := all_oneCell_toArray (fun v hv => by
  simp only [msC, List.mem_cons, List.not_mem_nil, or_false] at hv
  rcases hv with rfl | rfl | rfl | rfl | rfl | rfl | rfl | rfl | rfl | rfl | rfl | rfl | rfl | rfl | rfl | rfl | rfl | rfl | rfl | rfl | rfl <;> rfl)
set_option maxRecDepth 100000 in
set_option maxHeartbeats 4000000 in
theorem ask_any (w : World) : Calls Tryd.prog 16 #[] w (RetMs exM w) := by
  go_enter Tryd.func16, Tryd.ntmps16
  have HT := Lib.hid (there_new w zeroC 32 21 rfl rfl)
  go_wp2_with (refine wpList_store_mid rfl 32 _ _ rfl w.heap.size 0 (msC exM).toArray rfl rfl HT.out (infoMs exM) (msC_one exM) ?_)
  have HR : Hid (((w.alloc (.cells zeroC.toArray 32)).setCells w.heap.size 0 (msC exM)).rangeAt w.heap.size 0 (msC exM)) := Lib.hid (World.rangeAt_setCells_same _ _ _ _ HT.out)
  have HB : Hid (Below w.heap.size w ((w.alloc (.cells zeroC.toArray 32)).setCells w.heap.size 0 (msC exM))) := Lib.hid (below_setCells _ (Nat.le_refl _) _ _ _ (below_new _ _))
  refine bodyPost_ret (v := .agg (msC exM).toArray) ?_ rfl ⟨rfl, HB.out⟩
  exact results_cell_mid Tryd.results16 _ _ w.heap.size (msC exM) _ rfl HR.out Tryd.underlying32 rfl (infoMs exM)
/-- the bytes of a message are few -/
def fewB (m : Ms) : Bool := decide ((encMs m).length ≤ 80000) && decide (m.texts.l.length ≤ 600)
set_option maxRecDepth 100000 in
set_option maxHeartbeats 4000000 in
theorem few_any (m : Ms) (w : World) (hok : m.ok w) (hs : m.sz ≤ 16777216) : Calls Tryd.prog 7 #[.agg (msC m).toArray] w (RetBool (fewB m) w) := by
  have HE : Hid (∀ w1, Below w.heap.size w w1 → Calls Tryd.prog 18 #[.agg (msC m).toArray] w1 (RetStr (encMs m) w1)) := Lib.hid (fun w1 hb => refEncode_any m w1 (Ms.below hok hb) hs)
  have hl := encMs_len m w hok hs
  have HB0 := Lib.hid (bx_new w (msC m) 32)
  have HRow : Hid (∀ W, Bx w (msC m) 32 W → W.rangeAt w.heap.size 0 (msC m)) := Lib.hid (fun W hb j v hv => by rw [Nat.zero_add]; exact bx_cell hb j v hv)
  have HZ : Hid (∀ q : Bool, q = decide (((encMs m).length : Int) ≤ 80000) → (q && decide ((m.texts.l.length : Int) ≤ 600)) = fewB m) := Lib.hid (fun q hq => by
    rw [hq]; unfold fewB
    rw [Bool.eq_iff_iff]; simp only [Bool.and_eq_true, decide_eq_true_eq]; omega)
  clear hok
  go_enter Tryd.func7, Tryd.ntmps7
  go_wp2_with (refine wpList_load_mid rfl 32 _ rfl _ 0 rfl (msC m) _ (HRow.out _ HB0.out) Tryd.underlying32 rfl (infoMs m) ?_)
  refine (HE.out _ (bx_low HB0.out)).mono ?_
  rintro e w2 ⟨rfl, b2⟩
  have hb2 := bx_on HB0.out b2
  have c20 : w2.cell? ⟨w.heap.size, 20, none⟩ = some (.slice m.texts.a m.texts.l.length m.texts.c) := bx_cell hb2 20 _ rfl
  have HB2 := Lib.hid (bx_low hb2)
  clear hb2 b2
  by_cases h1 : (encMs m).length ≤ 80000
  · have HF : Hid (decide ((m.texts.l.length : Int) ≤ 600) = fewB m) := Lib.hid (by have := HZ.out true (by symm; rw [decide_eq_true_eq]; omega); simpa using this)
    go_wp2_with fail
    go_ret
    exact ret_bl HF.out.symm HB2.out
  · have HF : Hid (fewB m = false) := Lib.hid (by unfold fewB; rw [decide_eq_false h1]; rfl)
    go_wp2_with fail
    go_ret
    exact ret_bl HF.out HB2.out
def RetStrErr (l : List UInt8) (n : Int) (w : World) (e : Ending) (w' : World) : Prop := e = .returned (.tuple #[.string ⟨l.toArray⟩, .int .i64 n]) ∧ Below w.heap.size w w'
theorem ret_se {l l' : List UInt8} {n m : Int} {w w' : World} (h : l = l') (hn : n = m) (hb : Below w.heap.size w w') : RetStrErr l n w (.returned (.tuple #[.string ⟨l'.toArray⟩, .int .i64 m])) w' := ⟨by rw [h, hn], hb⟩
def enc0 (m : Ms) : List UInt8 := if vMs m = 0 then encMs m else []
set_option maxRecDepth 100000 in
set_option maxHeartbeats 4000000 in
theorem encode_any (m : Ms) (w : World) (hok : m.ok w) (hs : m.sz ≤ 16777216) : Calls Tryd.prog 10 #[.agg (msC m).toArray] w (RetStrErr (enc0 m) (vMs m) w) := by
  have HV : Hid (∀ w1, Below w.heap.size w w1 → Calls Tryd.prog 8 #[.agg (msC m).toArray] w1 (RetErr (vMs m) w1)) := Lib.hid (fun w1 hb => valid_any m w1 (Ms.below hok hb) (MsFew.of_sz (by omega)))
  have HE : Hid (∀ w1, Below w.heap.size w w1 → Calls Tryd.prog 31 #[.agg (msC m).toArray] w1 (RetStr (encMs m) w1)) := Lib.hid (fun w1 hb => code_any m w1 (Ms.below hok hb) hs)
  have HB0 := Lib.hid (bx_new w (msC m) 32)
  have HRow : Hid (∀ W, Bx w (msC m) 32 W → W.rangeAt w.heap.size 0 (msC m)) := Lib.hid (fun W hb j v hv => by rw [Nat.zero_add]; exact bx_cell hb j v hv)
  clear hok hs
  go_enter Tryd.func10, Tryd.ntmps10
  go_wp2_with (refine wpList_load_mid rfl 32 _ rfl _ 0 rfl (msC m) _ (HRow.out _ HB0.out) Tryd.underlying32 rfl (infoMs m) ?_)
  refine (HV.out _ (bx_low HB0.out)).mono ?_
  rintro e w2 ⟨rfl, b2⟩
  have HB2 := Lib.hid (bx_on HB0.out b2)
  clear b2
  by_cases h0 : vMs m = 0
  · have h1 : (vMs m == 0) = true := by simp [h0]
    have h2 : (vMs m != 0) = false := by simp [h0]
    have H0 := Lib.hid h0
    clear h0
    have HE2 := Lib.hid (HE.out w2 (bx_low HB2.out))
    go_wp2_with (refine wpList_load_mid rfl 32 _ rfl _ 0 rfl (msC m) _ (HRow.out _ HB2.out) Tryd.underlying32 rfl (infoMs m) ?_)
    refine HE2.out.mono ?_
    rintro e w3 ⟨rfl, b3⟩
    have HB3 := Lib.hid (bx_low (bx_on HB2.out b3))
    clear b3
    go_wp2_with fail
    go_ret2
    exact ret_se (by unfold enc0; rw [if_pos H0.out]) H0.out HB3.out
  · have h1 : (vMs m == 0) = false := by simp [h0]
    have h2 : (vMs m != 0) = true := by simp [h0]
    have H0 := Lib.hid h0
    clear h0
    go_wp2_with fail
    go_ret2
    exact ret_se (by unfold enc0; rw [if_neg H0.out]) rfl (bx_low HB2.out)
end Go.Proofs.YtoehakekjlebdaaDoor
