/- The contracts of Show on the example, and of awake. -/
import Derived.Test.YtoehakekjlebdaaDoorMsA
import Derived.Lib.SmallJoins
import Derived.Lib.AppendIntMem
namespace Go.Proofs.YtoehakekjlebdaaDoor
open Go.RowKit

/-- what the library's variable holds -/
def Env (w : World) : Prop := Lib.TabIs Tryd.prog w "internal/strconv.uint64pow10" .u64 Lib.pow10Tab
theorem Env.below {w w' : World} (h : Env w) (hb : Below w.heap.size w w') : Env w' :=
  Go.Joins.tab_stays (g := (Tryd.prog.globalNamed "internal/strconv.uint64pow10").getD 0) (by kernel_rfl) h hb (Nat.le_refl _)
theorem itoa_any (n : Int) (h0 : -9223372036854775808 ≤ n) (h1 : n ≤ 9223372036854775807) (w : World) (he : Env w) :
    Calls Tryd.prog 33 #[.int .i64 n] w (RetStr (Lib.itoa n) w) :=
  (Tryd.strconv_Itoa n h0 h1 w he).mono fun _ _ ⟨he, k, os, hw⟩ => ⟨he, by rw [hw]; exact Lib.below_grow _ w (Nat.le_refl _) k os⟩
theorem itoa_lit (n : Int) (l : List UInt8) (h0 : -9223372036854775808 ≤ n) (h1 : n ≤ 9223372036854775807) (h : Lib.itoa n = l) (w : World) (he : Env w) :
    Calls Tryd.prog 33 #[.int .i64 n] w (RetStr l w) := h ▸ itoa_any n h0 h1 w he
def showW : List (List UInt8) := [[97, 115, 107], [49], [116, 111], [50], [118, 105, 101, 119], [51], [115, 108, 111, 116], [48]]
def showT : List UInt8 := [97, 115, 107, 32, 49, 32, 116, 111, 32, 50, 32, 118, 105, 101, 119, 32, 51, 32, 115, 108, 111, 116, 32, 48]
theorem show_join : Lib.join showW [32] = showT := by decide +kernel
theorem join_any (w1 w0 : World) (h : Nat) (hh : w1.heap.size = h) (hb : Below w0.heap.size w0 w1) :
    Calls Tryd.prog 35 #[.slice (some ⟨h, 0, none⟩) 8 8, .string ⟨#[32]⟩] (w1.alloc (.cells (strC showW).toArray 9)) fun e w' => e = .returned (.string ⟨showT.toArray⟩) ∧ Below w0.heap.size w0 w' := by
  subst hh
  have hm : (showW.map fun x => ByteArray.mk x.toArray).map (·.data.toList) = showW := rfl
  have h9 := Tryd.strings_Join w1.heap.size 0 8 (showW.map fun x => ⟨x.toArray⟩) ⟨#[32]⟩ (w1.alloc (.cells (strC showW).toArray 9)) (fun j x hx => by
    rw [Nat.zero_add]
    exact new_cell w1 (strC showW) 9 _ rfl j _ (by
      simp only [List.getElem?_map, Option.map_eq_some_iff] at hx
      obtain ⟨y, hy, rfl⟩ := hx
      simp [strC, hy])) (by simp) (by decide) (by decide) (by rw [hm]; show (Lib.join showW [32]).length ≤ _; rw [show_join]; decide)
  rw [hm] at h9
  exact Calls.mono h9 fun e w' ⟨he, hw⟩ => ⟨by rw [he]; show Ending.returned (.string ⟨(Lib.join showW [32]).toArray⟩) = _; rw [show_join], bon (hb.alloc hb.size _) hw⟩
set_option maxRecDepth 100000 in
set_option maxHeartbeats 8000000 in
theorem show_any (w : World) (he : Env w) : Calls Tryd.prog 17 #[.agg (msC exM).toArray] w (RetStr showT w) := by
  have HK : Hid (∀ w1, Calls Tryd.prog 19 #[.int .i64 1] w1 fun e w' => e = .returned (.tuple #[.string ⟨#[97, 115, 107]⟩, .int .i64 3]) ∧ w1 = w') := Lib.hid (fun w1 => kind_any 1 w1)
  have HE : Hid (∀ w1, Bx w (msC exM) 32 w1 → Env w1) := Lib.hid (fun w1 hb => he.below (bx_low hb))
  have H1 : Hid (∀ (w1 : World) (R : Prop), (Bx w (msC exM) 32 w1 ∧ R) → Calls Tryd.prog 33 #[.int .i64 1] w1 (Gives w (msC exM) 32 [49])) := Lib.hid (fun w1 _ hb => gives_of hb.1 (itoa_lit 1 [49] (by decide) (by decide) (by decide +kernel) w1 (HE.out _ hb.1)))
  have H2 : Hid (∀ (w1 : World) (R : Prop), (Bx w (msC exM) 32 w1 ∧ R) → Calls Tryd.prog 33 #[.int .i64 2] w1 (Gives w (msC exM) 32 [50])) := Lib.hid (fun w1 _ hb => gives_of hb.1 (itoa_lit 2 [50] (by decide) (by decide) (by decide +kernel) w1 (HE.out _ hb.1)))
  have H3 : Hid (∀ (w1 : World) (R : Prop), (Bx w (msC exM) 32 w1 ∧ R) → Calls Tryd.prog 33 #[.int .i64 3] w1 (Gives w (msC exM) 32 [51])) := Lib.hid (fun w1 _ hb => gives_of hb.1 (itoa_lit 3 [51] (by decide) (by decide) (by decide +kernel) w1 (HE.out _ hb.1)))
  have H4 : Hid (∀ (w1 : World) (R : Prop), (Bx w (msC exM) 32 w1 ∧ R) → Calls Tryd.prog 33 #[.int .i64 0] w1 (Gives w (msC exM) 32 [48])) := Lib.hid (fun w1 _ hb => gives_of hb.1 (itoa_lit 0 [48] (by decide) (by decide) (by decide +kernel) w1 (HE.out _ hb.1)))
  have HC : Hid (∀ w1, Bx w (msC exM) 32 w1 → Bx w (msC exM) 32 w1 ∧ w1.cell? ⟨w.heap.size, 1, none⟩ = some (.int .i64 1) ∧ w1.cell? ⟨w.heap.size, 2, none⟩ = some (.int .i64 2) ∧ w1.cell? ⟨w.heap.size, 3, none⟩ = some (.int .i64 3) ∧ w1.cell? ⟨w.heap.size, 4, none⟩ = some (.int .i64 0)) :=
    Lib.hid (fun w1 hb => ⟨hb, bx_cell hb 1 _ rfl, bx_cell hb 2 _ rfl, bx_cell hb 3 _ rfl, bx_cell hb 4 _ rfl⟩)
  have HV : Hid (∀ w1, Bx w (msC exM) 32 w1 → w1.cell? ⟨w.heap.size, 5, none⟩ = some (.string ⟨#[]⟩)) := Lib.hid (fun w1 hb => bx_cell hb 5 _ rfl)
  have c0 : (w.alloc (.cells (msC exM).toArray 32)).cell? ⟨w.heap.size, 0, none⟩ = some (.int .i64 1) := bx_cell (bx_new w (msC exM) 32) 0 _ rfl
  have HB0 := Lib.hid (bx_new w (msC exM) 32)
  clear he
  go_enter Tryd.func17, Tryd.ntmps17
  go_wp2_with fail
  refine (HK.out _).mono ?_
  rintro e w1 ⟨rfl, rfl⟩
  clear c0
  go_wp2_with fail
  go_region_held3 (fun w1 => Bx w (msC exM) 32 w1 ∧ w1.cell? ⟨w.heap.size, 1, none⟩ = some (.int .i64 1) ∧ w1.cell? ⟨w.heap.size, 2, none⟩ = some (.int .i64 2) ∧ w1.cell? ⟨w.heap.size, 3, none⟩ = some (.int .i64 3) ∧ w1.cell? ⟨w.heap.size, 4, none⟩ = some (.int .i64 0))
    (first | exact HC.out _ (bx_drew HB0.out) | exact HC.out _ (bx_alloc (‹Bx _ _ _ _ ∧ _›).1 _) | exact HC.out _ ‹Bx _ _ _ _›)
    (first
      | (go_at_call_of 33 (Value.int IntKind.i64 1); refine (H1.out _ _ (by assumption)).mono ?_; rintro e w2 ⟨rfl, b2⟩)
      | (go_at_call_of 33 (Value.int IntKind.i64 2); refine (H2.out _ _ (by assumption)).mono ?_; rintro e w3 ⟨rfl, b3⟩)
      | (go_at_call_of 33 (Value.int IntKind.i64 3); refine (H3.out _ _ (by assumption)).mono ?_; rintro e w4 ⟨rfl, b4⟩)
      | (go_at_call_of 33 (Value.int IntKind.i64 0); refine (H4.out _ _ (by assumption)).mono ?_; rintro e w5 ⟨rfl, b5⟩))
  all_goals
    have c5 : (w5.alloc (.cells #[.string ⟨#[97, 115, 107]⟩, .string ⟨#[49]⟩, .string ⟨#[116, 111]⟩, .string ⟨#[50]⟩, .string ⟨#[118, 105, 101, 119]⟩, .string ⟨#[51]⟩, .string ⟨#[115, 108, 111, 116]⟩, .string ⟨#[48]⟩] 9)).cell? ⟨w.heap.size, 5, none⟩ = some (.string ⟨#[]⟩) := HV.out _ (bx_alloc b5 (.cells (strC showW).toArray 9))
    have HJ := Lib.hid (join_any w5 w _ rfl (bx_low b5))
    go_wp2_with fail
    refine HJ.out.mono ?_
    rintro e w6 ⟨rfl, b6⟩
    go_wp2_with fail
    go_ret
    exact ret_st rfl b6
def exB : Ms := ⟨1, 1, 2, 3, 0, [120], 0, ⟨0, 0, 0, 0, [], []⟩, Sl.nil, Sl.nil, ⟨0, [], Sl.nil, Sl.nil, Sl.nil⟩, Sl.nil⟩
theorem exM_ok (w : World) : exM.ok w := by
  refine ⟨by simp [I64, exM], by simp [Sg.ok, I64, exM], ⟨⟨rfl, fun h => by simp [exM, Sl.nil] at h⟩, fun x hx => by simp [exM, Sl.nil] at hx⟩, ⟨⟨rfl, fun h => by simp [exM, Sl.nil] at h⟩, fun x hx => by simp [exM, Sl.nil] at hx⟩, ⟨by simp [I64, exM], ⟨rfl, fun h => by simp [exM, Sl.nil] at h⟩, ⟨⟨rfl, fun h => by simp [exM, Sl.nil] at h⟩, fun x hx => by simp [exM, Sl.nil] at hx⟩, ⟨rfl, fun h => by simp [exM, Sl.nil] at h⟩, fun x hx => by simp [exM, Sl.nil] at hx⟩, ⟨rfl, fun h => by simp [exM, Sl.nil] at h⟩⟩
theorem exB_ok (w : World) : exB.ok w := exM_ok w
theorem exM_sz : exM.sz ≤ 16777216 := by decide
theorem exM_valid : vMs exM = 0 := by decide +kernel
theorem exB_valid : vMs exB = 1 := by decide +kernel
theorem exM_enc : ∃ r : List UInt8, encMs exM = [6, 2, 2, 4, 6, 0, 0, 0] ++ r ∧ r ≠ [] := by
  have hA : putInts [1, 1, 2, 3, 0, 0] = [6, 2, 2, 4, 6, 0, 0] := by
    show varint 6 ++ (varint 2 ++ (varint 2 ++ (varint 4 ++ (varint 6 ++ (varint 0 ++ (varint 0 ++ [])))))) = _
    rw [varint_small 6 (by decide), varint_small 2 (by decide), varint_small 4 (by decide), varint_small 0 (by decide)]
    rfl
  have hB : putStr [] = [0] := by
    show varint 0 ++ [] = _
    rw [varint_small 0 (by decide)]; rfl
  refine ⟨putStr (encSg exM.signed) ++ (putList (exM.statuses.l.map encSt) ++ (putList (exM.entries.l.map encDe) ++ (putStr (encSn exM.snapshot) ++ putList exM.texts.l))), ?_, ?_⟩
  · show putInts [1, 1, 2, 3, 0, 0] ++ putStr [] ++ putStr (encSg exM.signed) ++ putList (exM.statuses.l.map encSt) ++ putList (exM.entries.l.map encDe) ++ putStr (encSn exM.snapshot) ++ putList exM.texts.l = _
    rw [hA, hB]
    simp only [List.append_assoc, List.cons_append, List.nil_append]
  · intro h
    have := congrArg List.length h
    have h2 := varint_pos (encSg exM.signed).length
    simp only [List.length_append, putStr, List.length_nil] at this
    omega
end Go.Proofs.YtoehakekjlebdaaDoor
