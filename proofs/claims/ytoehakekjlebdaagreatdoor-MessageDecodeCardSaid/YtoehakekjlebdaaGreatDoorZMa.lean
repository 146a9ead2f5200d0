/- The contracts of ask, Encode, Few. -/
import Derived.Test.YtoehakekjlebdaaGreatDoorZRb
import Derived.Test.YtoehakekjlebdaaGreatDoorZCd
import Derived.Test.YtoehakekjlebdaaGreatDoorZRc
import Derived.Laws.Rows
import Derived.Laws.IdiomCopy
import Derived.Lib.SmallJoins
import Derived.Lib.AppendIntMem
namespace Go.Proofs.YtoehakekjlebdaaGreatDoor
open Go.RowKit

theorem below_setCells {B : Nat} {w0 : World} (b : Nat) (hb : B ≤ b) : ∀ (vs : List Value) (o : Nat) (w : World), Below B w0 w → Below B w0 (w.setCells b o vs)
  | [], _, _, h => h
  | v :: r, o, w, h => below_setCells b hb r (o + 1) _ (h.setCell (by simpa using hb) v)
theorem there_new (w : World) (cs : List Value) (T : TypeId) (n : Nat) (hn : n = cs.length) {b : Nat} (hb : b = w.heap.size) : (w.alloc (.cells cs.toArray T)).there b 0 n := fun j hj => by
  subst hn
  subst hb
  rw [Nat.zero_add]
  have hc := new_cell w cs T w.heap.size rfl j cs[j] (List.getElem?_eq_getElem hj)
  refine ⟨by rw [hc]; rfl, ?_⟩
  simp
theorem results_cell_mid {P : Program} {fn : Func} {p : Tmp} {ty : TypeId} (h : fn.results = #[.cell p ty]) (tmps : Array Value) (w : World) (b : Nat) (cs : List Value) (d : TypeDesc)
    (hp : tmps.getD p undef = .pointer (some ⟨b, 0, none⟩)) (hc : w.rangeAt b 0 cs) (hu : P.underlying ty = some d) (hd : d.isRow = true) (hi : (P.info? ty).map (·.size) = some cs.length) :
    (results fn tmps).run P w = .ok (.agg cs.toArray) w := by
  have hp' : tmps[p]?.getD undef = .pointer (some ⟨b, 0, none⟩) := by simpa using hp
  simp [results, h, hp', asAddr, run_loadVar_mid w b 0 ty cs d hc hu hd hi]
/-- the zero message's cells -/
def zeroC : List Value := [.int .i64 0, .int .i64 0, .int .i64 0, .int .i64 0, .int .i64 0, .string ⟨#[]⟩, .int .i64 0, .int .i64 0, .int .i64 0, .int .i64 0, .int .i64 0, .string ⟨#[]⟩, .string ⟨#[]⟩, .slice none 0 0, .slice none 0 0, .int .i64 0, .string ⟨#[]⟩, .slice none 0 0, .slice none 0 0, .slice none 0 0, .slice none 0 0]
def exM : Ms := ⟨1, 1, 2, 3, 0, [], 0, ⟨0, 0, 0, 0, [], []⟩, Sl.nil, Sl.nil, ⟨0, [], Sl.nil, Sl.nil, Sl.nil⟩, Sl.nil⟩
def RetMs (m : Ms) (w : World) (e : Ending) (w' : World) : Prop := e = .returned (.agg (msC m).toArray) ∧ Below w.heap.size w w'
theorem msC_one (m : Ms) : (msC m).toArray.all (·.oneCell') = true := all_oneCell_toArray (fun v hv => by
  simp only [msC, List.mem_cons, List.not_mem_nil, or_false] at hv
  rcases hv with rfl | rfl | rfl | rfl | rfl | rfl | rfl | rfl | rfl | rfl | rfl | rfl | rfl | rfl | rfl | rfl | rfl | rfl | rfl | rfl | rfl <;> rfl)
set_option maxRecDepth 100000 in
set_option maxHeartbeats 4000000 in
theorem ask_any (w : World) : Calls Tryz.prog 19 #[] w (RetMs exM w) := by
  go_enter Tryz.func19, Tryz.ntmps19
  have HT := Lib.hid (there_new w zeroC 36 21 rfl rfl)
  go_wp2_with (refine wpList_store_mid rfl 36 _ _ rfl w.heap.size 0 (msC exM).toArray rfl rfl HT.out (infoMs exM) (msC_one exM) ?_)
  have HR : Hid (((w.alloc (.cells zeroC.toArray 36)).setCells w.heap.size 0 (msC exM)).rangeAt w.heap.size 0 (msC exM)) := Lib.hid (World.rangeAt_setCells_same _ _ _ _ HT.out)
  have HB : Hid (Below w.heap.size w ((w.alloc (.cells zeroC.toArray 36)).setCells w.heap.size 0 (msC exM))) := Lib.hid (below_setCells _ (Nat.le_refl _) _ _ _ (below_new _ _))
  refine bodyPost_ret (v := .agg (msC exM).toArray) ?_ rfl ⟨rfl, HB.out⟩
  exact results_cell_mid Tryz.results19 _ _ w.heap.size (msC exM) _ rfl HR.out Tryz.underlying36 rfl (infoMs exM)
/-- the bytes of a message are few -/
def fewB (m : Ms) : Bool := decide ((encMs m).length ≤ 80000) && decide (m.texts.l.length ≤ 600)
set_option maxRecDepth 100000 in
set_option maxHeartbeats 4000000 in
theorem few_any (m : Ms) (w : World) (hok : m.ok w) (hs : m.sz ≤ 16777216) : Calls Tryz.prog 8 #[.agg (msC m).toArray] w (RetBool (fewB m) w) := by
  have HE : Hid (∀ w1, Below w.heap.size w w1 → Calls Tryz.prog 22 #[.agg (msC m).toArray] w1 (RetStr (encMs m) w1)) := Lib.hid (fun w1 hb => refEncode_any m w1 (Ms.below hok hb) hs)
  have hl := encMs_len m w hok hs
  have HB0 := Lib.hid (bx_new w (msC m) 36)
  have HRow : Hid (∀ W, Bx w (msC m) 36 W → W.rangeAt w.heap.size 0 (msC m)) := Lib.hid (fun W hb j v hv => by rw [Nat.zero_add]; exact bx_cell hb j v hv)
  have HZ : Hid (∀ q : Bool, q = decide (((encMs m).length : Int) ≤ 80000) → (q && decide ((m.texts.l.length : Int) ≤ 600)) = fewB m) := Lib.hid (fun q hq => by
    rw [hq]; unfold fewB
    rw [Bool.eq_iff_iff]; simp only [Bool.and_eq_true, decide_eq_true_eq]; omega)
  clear hok
  go_enter Tryz.func8, Tryz.ntmps8
  go_wp2_with (refine wpList_load_mid rfl 36 _ rfl _ 0 rfl (msC m) _ (HRow.out _ HB0.out) Tryz.underlying36 rfl (infoMs m) ?_)
  refine (HE.out _ (bx_low HB0.out)).mono ?_
  rintro e w2 ⟨rfl, b2⟩
  have hb2 := bx_on HB0.out b2
  have c20 : w2.cell? ⟨w.heap.size, 20, none⟩ = some (.slice m.texts.a m.texts.l.length m.texts.c) := bx_cell hb2 20 _ rfl
  have HB2 := Lib.hid (bx_low hb2)
  clear hb2 b2
  by_cases h1 : (encMs m).length ≤ 80000
  · have HF : Hid (decide ((m.texts.l.length : Int) ≤ 600) = fewB m) := Lib.hid (by have := HZ.out true (by symm; rw [decide_eq_true_eq]; omega); simpa using this)
    go_wp2_with fail
    go_ret
    exact ret_bl HF.out.symm HB2.out
  · have HF : Hid (fewB m = false) := Lib.hid (by unfold fewB; rw [decide_eq_false h1]; rfl)
    go_wp2_with fail
    go_ret
    exact ret_bl HF.out HB2.out
def RetStrErr (l : List UInt8) (n : Int) (w : World) (e : Ending) (w' : World) : Prop := e = .returned (.tuple #[.string ⟨l.toArray⟩, .int .i64 n]) ∧ Below w.heap.size w w'
theorem ret_se {l l' : List UInt8} {n m : Int} {w w' : World} (h : l = l') (hn : n = m) (hb : Below w.heap.size w w') : RetStrErr l n w (.returned (.tuple #[.string ⟨l'.toArray⟩, .int .i64 m])) w' := ⟨by rw [h, hn], hb⟩
def enc0 (m : Ms) : List UInt8 := if vMs m = 0 then encMs m else []
set_option maxRecDepth 100000 in
set_option maxHeartbeats 4000000 in
theorem encode_any (m : Ms) (w : World) (hok : m.ok w) (hs : m.sz ≤ 16777216) : Calls Tryz.prog 14 #[.agg (msC m).toArray] w (RetStrErr (enc0 m) (vMs m) w) := by
  have HV : Hid (∀ w1, Below w.heap.size w w1 → Calls Tryz.prog 20 #[.agg (msC m).toArray] w1 (RetErr (vMs m) w1)) := Lib.hid (fun w1 hb => valid_any m w1 (Ms.below hok hb) (MsFew.of_sz (by omega)))
  have HE : Hid (∀ w1, Below w.heap.size w w1 → Calls Tryz.prog 32 #[.agg (msC m).toArray] w1 (RetStr (encMs m) w1)) := Lib.hid (fun w1 hb => code_any m w1 (Ms.below hok hb) hs)
  have HB0 := Lib.hid (bx_new w (msC m) 36)
  have HRow : Hid (∀ W, Bx w (msC m) 36 W → W.rangeAt w.heap.size 0 (msC m)) := Lib.hid (fun W hb j v hv => by rw [Nat.zero_add]; exact bx_cell hb j v hv)
  clear hok hs
  go_enter Tryz.func14, Tryz.ntmps14
  go_wp2_with (refine wpList_load_mid rfl 36 _ rfl _ 0 rfl (msC m) _ (HRow.out _ HB0.out) Tryz.underlying36 rfl (infoMs m) ?_)
  refine (HV.out _ (bx_low HB0.out)).mono ?_
  rintro e w2 ⟨rfl, b2⟩
  have HB2 := Lib.hid (bx_on HB0.out b2)
  clear b2
  by_cases h0 : vMs m = 0
  · have h1 : (vMs m == 0) = true := by simp [h0]
    have h2 : (vMs m != 0) = false := by simp [h0]
    have H0 := Lib.hid h0
    clear h0
    have HE2 := Lib.hid (HE.out w2 (bx_low HB2.out))
    go_wp2_with (refine wpList_load_mid rfl 36 _ rfl _ 0 rfl (msC m) _ (HRow.out _ HB2.out) Tryz.underlying36 rfl (infoMs m) ?_)
    refine HE2.out.mono ?_
    rintro e w3 ⟨rfl, b3⟩
    have HB3 := Lib.hid (bx_low (bx_on HB2.out b3))
    clear b3
    go_wp2_with fail
    go_ret2
    exact ret_se (by unfold enc0; rw [if_pos H0.out]) H0.out HB3.out
  · have h1 : (vMs m == 0) = false := by simp [h0]
    have h2 : (vMs m != 0) = true := by simp [h0]
    have H0 := Lib.hid h0
    clear h0
    go_wp2_with fail
    go_ret2
    exact ret_se (by unfold enc0; rw [if_neg H0.out]) rfl (bx_low HB2.out)
end Go.Proofs.YtoehakekjlebdaaGreatDoor
/- The contracts of Show on the example, and of awake. -/
namespace Go.Proofs.YtoehakekjlebdaaGreatDoor
open Go.RowKit

/-- what the library's variable holds -/
def Env (w : World) : Prop := Lib.TabIs Tryz.prog w "internal/strconv.uint64pow10" .u64 Lib.pow10Tab
theorem Env.below {w w' : World} (h : Env w) (hb : Below w.heap.size w w') : Env w' :=
  Go.Joins.tab_stays (g := (Tryz.prog.globalNamed "internal/strconv.uint64pow10").getD 0) (by kernel_rfl) h hb (Nat.le_refl _)
theorem itoa_any (n : Int) (h0 : -9223372036854775808 ≤ n) (h1 : n ≤ 9223372036854775807) (w : World) (he : Env w) :
    Calls Tryz.prog 48 #[.int .i64 n] w (RetStr (Lib.itoa n) w) :=
  (Tryz.strconv_Itoa n h0 h1 w he).mono fun _ _ ⟨he, k, os, hw⟩ => ⟨he, by rw [hw]; exact Lib.below_grow _ w (Nat.le_refl _) k os⟩
theorem itoa_lit (n : Int) (l : List UInt8) (h0 : -9223372036854775808 ≤ n) (h1 : n ≤ 9223372036854775807) (h : Lib.itoa n = l) (w : World) (he : Env w) :
    Calls Tryz.prog 48 #[.int .i64 n] w (RetStr l w) := h ▸ itoa_any n h0 h1 w he
def showW : List (List UInt8) := [[97, 115, 107], [49], [116, 111], [50], [118, 105, 101, 119], [51], [115, 108, 111, 116], [48]]
def showT : List UInt8 := [97, 115, 107, 32, 49, 32, 116, 111, 32, 50, 32, 118, 105, 101, 119, 32, 51, 32, 115, 108, 111, 116, 32, 48]
theorem show_join : Lib.join showW [32] = showT := by decide +kernel
theorem join_any (w1 w0 : World) (h : Nat) (hh : w1.heap.size = h) (hb : Below w0.heap.size w0 w1) :
    Calls Tryz.prog 50 #[.slice (some ⟨h, 0, none⟩) 8 8, .string ⟨#[32]⟩] (w1.alloc (.cells (strC showW).toArray 9)) fun e w' => e = .returned (.string ⟨showT.toArray⟩) ∧ Below w0.heap.size w0 w' := by
  subst hh
  have hm : (showW.map fun x => ByteArray.mk x.toArray).map (·.data.toList) = showW := rfl
  have h9 := Tryz.strings_Join w1.heap.size 0 8 (showW.map fun x => ⟨x.toArray⟩) ⟨#[32]⟩ (w1.alloc (.cells (strC showW).toArray 9)) (fun j x hx => by
    rw [Nat.zero_add]
    exact new_cell w1 (strC showW) 9 _ rfl j _ (by
      simp only [List.getElem?_map, Option.map_eq_some_iff] at hx
      obtain ⟨y, hy, rfl⟩ := hx
      simp [strC, hy])) (by simp) (by decide) (by decide) (by rw [hm]; show (Lib.join showW [32]).length ≤ _; rw [show_join]; decide)
  rw [hm] at h9
  exact Calls.mono h9 fun e w' ⟨he, hw⟩ => ⟨by rw [he]; show Ending.returned (.string ⟨(Lib.join showW [32]).toArray⟩) = _; rw [show_join], bon (hb.alloc hb.size _) hw⟩
set_option maxRecDepth 100000 in
set_option maxHeartbeats 8000000 in
theorem show_any (w : World) (he : Env w) : Calls Tryz.prog 21 #[.agg (msC exM).toArray] w (RetStr showT w) := by
  have HK : Hid (∀ w1, Calls Tryz.prog 42 #[.int .i64 1] w1 fun e w' => e = .returned (.tuple #[.string ⟨#[97, 115, 107]⟩, .int .i64 3]) ∧ w1 = w') := Lib.hid (fun w1 => kind_any 1 w1)
  have HE : Hid (∀ w1, Bx w (msC exM) 36 w1 → Env w1) := Lib.hid (fun w1 hb => he.below (bx_low hb))
  have H1 : Hid (∀ (w1 : World) (R : Prop), (Bx w (msC exM) 36 w1 ∧ R) → Calls Tryz.prog 48 #[.int .i64 1] w1 (Gives w (msC exM) 36 [49])) := Lib.hid (fun w1 _ hb => gives_of hb.1 (itoa_lit 1 [49] (by decide) (by decide) (by decide +kernel) w1 (HE.out _ hb.1)))
  have H2 : Hid (∀ (w1 : World) (R : Prop), (Bx w (msC exM) 36 w1 ∧ R) → Calls Tryz.prog 48 #[.int .i64 2] w1 (Gives w (msC exM) 36 [50])) := Lib.hid (fun w1 _ hb => gives_of hb.1 (itoa_lit 2 [50] (by decide) (by decide) (by decide +kernel) w1 (HE.out _ hb.1)))
  have H3 : Hid (∀ (w1 : World) (R : Prop), (Bx w (msC exM) 36 w1 ∧ R) → Calls Tryz.prog 48 #[.int .i64 3] w1 (Gives w (msC exM) 36 [51])) := Lib.hid (fun w1 _ hb => gives_of hb.1 (itoa_lit 3 [51] (by decide) (by decide) (by decide +kernel) w1 (HE.out _ hb.1)))
  have H4 : Hid (∀ (w1 : World) (R : Prop), (Bx w (msC exM) 36 w1 ∧ R) → Calls Tryz.prog 48 #[.int .i64 0] w1 (Gives w (msC exM) 36 [48])) := Lib.hid (fun w1 _ hb => gives_of hb.1 (itoa_lit 0 [48] (by decide) (by decide) (by decide +kernel) w1 (HE.out _ hb.1)))
  have HC : Hid (∀ w1, Bx w (msC exM) 36 w1 → Bx w (msC exM) 36 w1 ∧ w1.cell? ⟨w.heap.size, 1, none⟩ = some (.int .i64 1) ∧ w1.cell? ⟨w.heap.size, 2, none⟩ = some (.int .i64 2) ∧ w1.cell? ⟨w.heap.size, 3, none⟩ = some (.int .i64 3) ∧ w1.cell? ⟨w.heap.size, 4, none⟩ = some (.int .i64 0)) :=
    Lib.hid (fun w1 hb => ⟨hb, bx_cell hb 1 _ rfl, bx_cell hb 2 _ rfl, bx_cell hb 3 _ rfl, bx_cell hb 4 _ rfl⟩)
  have HV : Hid (∀ w1, Bx w (msC exM) 36 w1 → w1.cell? ⟨w.heap.size, 5, none⟩ = some (.string ⟨#[]⟩)) := Lib.hid (fun w1 hb => bx_cell hb 5 _ rfl)
  have c0 : (w.alloc (.cells (msC exM).toArray 36)).cell? ⟨w.heap.size, 0, none⟩ = some (.int .i64 1) := bx_cell (bx_new w (msC exM) 36) 0 _ rfl
  have HB0 := Lib.hid (bx_new w (msC exM) 36)
  clear he
  go_enter Tryz.func21, Tryz.ntmps21
  go_wp2_with fail
  refine (HK.out _).mono ?_
  rintro e w1 ⟨rfl, rfl⟩
  clear c0
  go_wp2_with fail
  go_region_held3 (fun w1 => Bx w (msC exM) 36 w1 ∧ w1.cell? ⟨w.heap.size, 1, none⟩ = some (.int .i64 1) ∧ w1.cell? ⟨w.heap.size, 2, none⟩ = some (.int .i64 2) ∧ w1.cell? ⟨w.heap.size, 3, none⟩ = some (.int .i64 3) ∧ w1.cell? ⟨w.heap.size, 4, none⟩ = some (.int .i64 0))
    (first | exact HC.out _ (bx_drew HB0.out) | exact HC.out _ (bx_alloc (‹Bx _ _ _ _ ∧ _›).1 _) | exact HC.out _ ‹Bx _ _ _ _›)
    (first
      | (go_at_call_of 48 (Value.int IntKind.i64 1); refine (H1.out _ _ (by assumption)).mono ?_; rintro e w2 ⟨rfl, b2⟩)
      | (go_at_call_of 48 (Value.int IntKind.i64 2); refine (H2.out _ _ (by assumption)).mono ?_; rintro e w3 ⟨rfl, b3⟩)
      | (go_at_call_of 48 (Value.int IntKind.i64 3); refine (H3.out _ _ (by assumption)).mono ?_; rintro e w4 ⟨rfl, b4⟩)
      | (go_at_call_of 48 (Value.int IntKind.i64 0); refine (H4.out _ _ (by assumption)).mono ?_; rintro e w5 ⟨rfl, b5⟩))
  all_goals
    have c5 : (w5.alloc (.cells #[.string ⟨#[97, 115, 107]⟩, .string ⟨#[49]⟩, .string ⟨#[116, 111]⟩, .string ⟨#[50]⟩, .string ⟨#[118, 105, 101, 119]⟩, .string ⟨#[51]⟩, .string ⟨#[115, 108, 111, 116]⟩, .string ⟨#[48]⟩] 9)).cell? ⟨w.heap.size, 5, none⟩ = some (.string ⟨#[]⟩) := HV.out _ (bx_alloc b5 (.cells (strC showW).toArray 9))
    have HJ := Lib.hid (join_any w5 w _ rfl (bx_low b5))
    go_wp2_with fail
    refine HJ.out.mono ?_
    rintro e w6 ⟨rfl, b6⟩
    go_wp2_with fail
    go_ret
    exact ret_st rfl b6
def exB : Ms := ⟨1, 1, 2, 3, 0, [120], 0, ⟨0, 0, 0, 0, [], []⟩, Sl.nil, Sl.nil, ⟨0, [], Sl.nil, Sl.nil, Sl.nil⟩, Sl.nil⟩
theorem exM_ok (w : World) : exM.ok w := by
  refine ⟨by simp [I64, exM], by simp [Sg.ok, I64, exM], ⟨⟨rfl, fun h => by simp [exM, Sl.nil] at h⟩, fun x hx => by simp [exM, Sl.nil] at hx⟩, ⟨⟨rfl, fun h => by simp [exM, Sl.nil] at h⟩, fun x hx => by simp [exM, Sl.nil] at hx⟩, ⟨by simp [I64, exM], ⟨rfl, fun h => by simp [exM, Sl.nil] at h⟩, ⟨⟨rfl, fun h => by simp [exM, Sl.nil] at h⟩, fun x hx => by simp [exM, Sl.nil] at hx⟩, ⟨rfl, fun h => by simp [exM, Sl.nil] at h⟩, fun x hx => by simp [exM, Sl.nil] at hx⟩, ⟨rfl, fun h => by simp [exM, Sl.nil] at h⟩⟩
theorem exB_ok (w : World) : exB.ok w := exM_ok w
theorem exM_sz : exM.sz ≤ 16777216 := by decide
theorem exM_valid : vMs exM = 0 := by decide +kernel
theorem exB_valid : vMs exB = 1 := by decide +kernel
theorem exM_enc : ∃ r : List UInt8, encMs exM = [6, 2, 2, 4, 6, 0, 0, 0] ++ r ∧ r ≠ [] := by
  have hA : putInts [1, 1, 2, 3, 0, 0] = [6, 2, 2, 4, 6, 0, 0] := by
    show varint 6 ++ (varint 2 ++ (varint 2 ++ (varint 4 ++ (varint 6 ++ (varint 0 ++ (varint 0 ++ [])))))) = _
    rw [varint_small 6 (by decide), varint_small 2 (by decide), varint_small 4 (by decide), varint_small 0 (by decide)]
    rfl
  have hB : putStr [] = [0] := by
    show varint 0 ++ [] = _
    rw [varint_small 0 (by decide)]; rfl
  refine ⟨putStr (encSg exM.signed) ++ (putList (exM.statuses.l.map encSt) ++ (putList (exM.entries.l.map encDe) ++ (putStr (encSn exM.snapshot) ++ putList exM.texts.l))), ?_, ?_⟩
  · show putInts [1, 1, 2, 3, 0, 0] ++ putStr [] ++ putStr (encSg exM.signed) ++ putList (exM.statuses.l.map encSt) ++ putList (exM.entries.l.map encDe) ++ putStr (encSn exM.snapshot) ++ putList exM.texts.l = _
    rw [hA, hB]
    simp only [List.append_assoc, List.cons_append, List.nil_append]
  · intro h
    have := congrArg List.length h
    have h2 := varint_pos (encSg exM.signed).length
    simp only [List.length_append, putStr, List.length_nil] at this
    omega
end Go.Proofs.YtoehakekjlebdaaGreatDoor
/- The contract of awake. -/
namespace Go.Proofs.YtoehakekjlebdaaGreatDoor
open Go.RowKit

theorem exB_range (w : World) (g : Nat) (hr : w.rangeAt g 0 (msC exM)) : (w.setCell ⟨g, 5, none⟩ (.string ⟨#[120]⟩)).rangeAt g 0 (msC exB) := fun j v hv => by
  rw [Nat.zero_add]
  have h5 := hr 5 _ rfl
  rw [Nat.zero_add] at h5
  by_cases h : j = 5
  · subst h
    have hv2 : some (Value.string ⟨#[120]⟩) = some v := hv
    rw [← hv2]
    exact World.cell?_setCell_same _ _ _ h5
  · have he : msC exB = (msC exM).set 5 (.string ⟨#[120]⟩) := rfl
    rw [he, List.getElem?_set_ne (by omega)] at hv
    have := hr j v hv
    rw [Nat.zero_add] at this
    exact (World.cell?_setCell_other _ _ _ _ (by first | (simp; done) | (simp; omega))).trans this
theorem wpList_load_wanted {P : Program} {ops : Array Oper} {rest : List Oper} {op : Oper} {a : Act} {w : World} {Q : Exit → Act → World → Prop} (hw : Region.wanted op (yielded ops a.tmps) = true) (ty : TypeId) (x : Operand) (ho : op.op = .load ty x)
    (b o : Nat) (hx : a.eval x = .pointer (some ⟨b, o, none⟩)) (cs : List Value) (d : TypeDesc) (hc : w.rangeAt b o cs)
    (hu : P.underlying ty = some d) (hd : d.isRow = true) (hi : (P.info? ty).map (·.size) = some cs.length)
    (h : wpList P ops Q rest (a.put op.dst (.agg cs.toArray)) w) : wpList P ops Q (op :: rest) a w := by
  unfold wpList
  rw [if_pos hw]
  exact .inl (wp_load_mid ty x ho b o hx cs d hc hu hd hi h)
/-- the first bytes of a text -/
def Starts (B : ByteArray) : Prop := B.extract 0 8 = ⟨#[6, 2, 2, 4, 6, 0, 0, 0]⟩
theorem starts_of {l r : List UInt8} (h : l = [6, 2, 2, 4, 6, 0, 0, 0] ++ r) : Starts ⟨l.toArray⟩ := by
  unfold Starts
  rw [ext_mid, h]
  rfl
set_option maxRecDepth 100000 in
set_option maxHeartbeats 1000000 in
theorem awake_any (w : World) (he : Env w) : Calls Tryz.prog 7 #[] w (RetBool true w) := by
  obtain ⟨r, hr, hne⟩ := exM_enc
  obtain ⟨B, hB⟩ : ∃ B : ByteArray, B = ⟨(encMs exM).toArray⟩ := ⟨_, rfl⟩
  have hB8 : (8 : Nat) < B.size := by
    rw [hB, size_mk, hr]
    have : r.length ≠ 0 := by simpa using hne
    simp; omega
  have hB9 : B.size ≤ 1000000000 := by
    rw [hB, size_mk]
    have := encMs_len exM w (exM_ok w) exM_sz
    have := exM_sz
    omega
  have hS : Starts B := by rw [hB]; exact starts_of hr
  unfold Starts at hS
  have HEn : Hid (∀ w1, Calls Tryz.prog 14 #[.agg (msC exM).toArray] w1 fun e w' => e = .returned (.tuple #[.string B, .int .i64 0]) ∧ Below w1.heap.size w1 w') := Lib.hid (fun w1 => (encode_any exM w1 (exM_ok w1) exM_sz).mono fun e w' ⟨he, hb⟩ => ⟨by rw [he, exM_valid, hB]; unfold enc0; rw [if_pos exM_valid], hb⟩)
  have HVb : Hid (∀ w1, Calls Tryz.prog 20 #[.agg (msC exB).toArray] w1 fun e w' => e = .returned (.int .i64 1) ∧ Below w1.heap.size w1 w') := Lib.hid (fun w1 => (valid_any exB w1 (exB_ok w1) (MsFew.of_sz (by decide))).mono fun e w' ⟨he, hb⟩ => ⟨by rw [he, exB_valid], hb⟩)
  have HSh : Hid (∀ w1, Below w.heap.size w w1 → Calls Tryz.prog 21 #[.agg (msC exM).toArray] w1 (RetStr showT w1)) := Lib.hid (fun w1 hb => show_any w1 (he.below hb))
  have HAsk := Lib.hid ask_any
  clear hr hne hB he
  go_enter Tryz.func7, Tryz.ntmps7
  go_wp2_with fail
  refine (HAsk.out _).mono ?_
  rintro e w1 ⟨rfl, b1⟩
  have B1 := Lib.hid b1
  clear b1
  go_wp2_with fail
  refine (HEn.out _).mono ?_
  rintro e w2 ⟨rfl, b2⟩
  have B2 := Lib.hid (bon B1.out b2)
  clear b2
  go_wp2_with fail
  refine (HAsk.out _).mono ?_
  rintro e w3 ⟨rfl, b3⟩
  have B3 := Lib.hid (bon B2.out b3)
  clear b3
  have HT := Lib.hid (there_new w3 zeroC 36 21 rfl rfl)
  go_upto_region 3 with (refine wpList_store_mid rfl 36 _ _ rfl w3.heap.size 0 (msC exM).toArray rfl rfl HT.out (infoMs exM) (msC_one exM) ?_)
  obtain ⟨g, hg⟩ : ∃ g, g = w3.heap.size := ⟨_, rfl⟩
  obtain ⟨x1, hx1⟩ : ∃ x1, x1 = (w3.alloc (.cells zeroC.toArray 36)).setCells w3.heap.size 0 (msC exM) := ⟨_, rfl⟩
  have HR : Hid (x1.rangeAt g 0 (msC exM)) := Lib.hid (by rw [hx1, hg]; exact World.rangeAt_setCells_same _ _ _ _ HT.out)
  have HTh : Hid (x1.there g 0 21) := Lib.hid (by rw [hx1, hg]; exact World.there_setCells HT.out _ _ _)
  have HB : Hid (Below w.heap.size w x1) := Lib.hid (by rw [hx1]; exact below_setCells _ B3.out.size _ _ _ (B3.out.alloc B3.out.size _))
  have hgs : w.heap.size ≤ g := by rw [hg]; exact B3.out.size
  change Code.wp _ _ _ _ ((w3.alloc (.cells zeroC.toArray 36)).setCells w3.heap.size 0 (msC exM))
  rw [← hx1, ← hg]
  have c5 : x1.cell? ⟨g, 5, none⟩ = some (.string ⟨#[]⟩) := by have := HR.out 5 _ rfl; rw [Nat.zero_add] at this; exact this
  have f5 : x1.frozen? ⟨g, 5, none⟩ = false := by have := (HTh.out 5 (by decide)).2; rwa [Nat.zero_add] at this
  clear hx1 hg HT
  have HRb : Hid ((x1.setCell ⟨g, 5, none⟩ (.string ⟨#[120]⟩)).rangeAt g 0 (msC exB)) := Lib.hid (exB_range x1 g HR.out)
  have HBb : Hid (Below w.heap.size w (x1.setCell ⟨g, 5, none⟩ (.string ⟨#[120]⟩))) := Lib.hid (HB.out.setCell hgs _)
  go_upto_region 4 with fail
  obtain ⟨x2, hx2⟩ : ∃ x2, x2 = x1.setCell ⟨g, 5, none⟩ (.string ⟨#[120]⟩) := ⟨_, rfl⟩
  rw [← hx2] at HRb HBb ⊢
  clear hx2 c5 f5
  have hB0 : (8 : Int) < (B.size : Int) := by omega
  have hBd : decide ((8 : Int) < (B.size : Int)) = true := by simp; omega
  go_wp2_with (refine wpList_load_wanted (by rfl) 36 _ rfl _ 0 rfl (msC exB) _ HRb.out Tryz.underlying36 rfl (infoMs exB) ?_)
  refine (HVb.out _).mono ?_
  rintro e w4 ⟨rfl, b4⟩
  have B4 := Lib.hid (bon HBb.out b4)
  clear b4
  go_wp2_with fail
  refine (HAsk.out _).mono ?_
  rintro e w5 ⟨rfl, b5⟩
  have B5 := Lib.hid (bon B4.out b5)
  clear b5
  have HS5 := Lib.hid (HSh.out w5 B5.out)
  go_wp2_with fail
  refine HS5.out.mono ?_
  rintro e w6 ⟨rfl, b6⟩
  have B6 := Lib.hid (bon B5.out b6)
  clear b6
  unfold showT
  go_wp2_with fail
  go_ret
  exact ret_bl rfl B6.out
end Go.Proofs.YtoehakekjlebdaaGreatDoor
