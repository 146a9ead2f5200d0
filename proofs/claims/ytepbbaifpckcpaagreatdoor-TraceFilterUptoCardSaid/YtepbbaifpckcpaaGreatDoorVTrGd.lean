/- The contracts of the reference's word, operation, Good. -/
import Derived.Test.YtepbbaifpckcpaaGreatDoorVPl
import Derived.Test.YtepbbaifpckcpaaGreatDoorVTrK
import Derived.Test.YtepbbaifpckcpaaGreatDoorVTrFb
import Derived.Test.YtepbbaifpckcpaaGreatDoorVStH
namespace Go.Proofs.YtepbbaifpckcpaaGreatDoor
open Go.RowKit
theorem qk : (∀ {α : Type} {l : List α} {i : Nat} {a : α}, l.toArray.setIfInBounds i a = (l.set i a).toArray) ∧ (∀ {α : Type} {a b : α} {l : List α}, (a :: l).set 0 b = b :: l) ∧ (∀ {α : Type} {a b : α} {l : List α} {n : Nat}, (a :: l).set (n + 1) b = a :: l.set n b) ∧ (∀ {α : Type} {l : List α} {i : Nat} (h : i < l.toArray.size), l.toArray[i] = l[i]'(by simpa using h)) ∧ (∀ {α : Type} {a : α} {l : List α} {i : Nat} (h : i + 1 < (a :: l).length), (a :: l)[i + 1] = l[i]'(Nat.lt_of_succ_lt_succ h)) ∧ (∀ {α : Type} {a : α} {l : List α} (h : 0 < (a :: l).length), (a :: l)[0] = a) := ⟨qk1, qk2, qk3, qk4, qk5, qk6⟩
theorem hbW (w : World) : Hid (Below w.heap.size w (w.alloc (.cells #[.string ⟨#[]⟩, .string ⟨#[105, 110, 118, 111, 107, 101]⟩, .string ⟨#[97, 99, 107]⟩, .string ⟨#[97, 99, 99, 101, 112, 116]⟩, .string ⟨#[100, 101, 99, 105, 100, 101]⟩, .string ⟨#[114, 101, 97, 100]⟩, .string ⟨#[115, 101, 110, 100]⟩, .string ⟨#[99, 114, 97, 115, 104]⟩, .string ⟨#[114, 101, 115, 116, 97, 114, 116]⟩] 9))) := hD (below_new w _)
set_option maxRecDepth 100000 in
theorem refWd1 (w : World) : Calls Tryz.prog 62 #[.int .i64 1] w (RetStr (wordK 1) w) := by
 have HB := hbW w
 go_enter Tryz.func62, Tryz.ntmps62
 go_wp2_with fail
 go_ret
 exact ⟨rfl, HB.out⟩
set_option maxRecDepth 100000 in
theorem refWd2 (w : World) : Calls Tryz.prog 62 #[.int .i64 2] w (RetStr (wordK 2) w) := by
 have HB := hbW w
 go_enter Tryz.func62, Tryz.ntmps62
 go_wp2_with fail
 go_ret
 exact ⟨rfl, HB.out⟩
set_option maxRecDepth 100000 in
theorem refWd3 (w : World) : Calls Tryz.prog 62 #[.int .i64 3] w (RetStr (wordK 3) w) := by
 have HB := hbW w
 go_enter Tryz.func62, Tryz.ntmps62
 go_wp2_with fail
 go_ret
 exact ⟨rfl, HB.out⟩
set_option maxRecDepth 100000 in
theorem refWd4 (w : World) : Calls Tryz.prog 62 #[.int .i64 4] w (RetStr (wordK 4) w) := by
 have HB := hbW w
 go_enter Tryz.func62, Tryz.ntmps62
 go_wp2_with fail
 go_ret
 exact ⟨rfl, HB.out⟩
set_option maxRecDepth 100000 in
theorem refWd5 (w : World) : Calls Tryz.prog 62 #[.int .i64 5] w (RetStr (wordK 5) w) := by
 have HB := hbW w
 go_enter Tryz.func62, Tryz.ntmps62
 go_wp2_with fail
 go_ret
 exact ⟨rfl, HB.out⟩
set_option maxRecDepth 100000 in
theorem refWd6 (w : World) : Calls Tryz.prog 62 #[.int .i64 6] w (RetStr (wordK 6) w) := by
 have HB := hbW w
 go_enter Tryz.func62, Tryz.ntmps62
 go_wp2_with fail
 go_ret
 exact ⟨rfl, HB.out⟩
set_option maxRecDepth 100000 in
theorem refWd7 (w : World) : Calls Tryz.prog 62 #[.int .i64 7] w (RetStr (wordK 7) w) := by
 have HB := hbW w
 go_enter Tryz.func62, Tryz.ntmps62
 go_wp2_with fail
 go_ret
 exact ⟨rfl, HB.out⟩
set_option maxRecDepth 100000 in
theorem refWd8 (w : World) : Calls Tryz.prog 62 #[.int .i64 8] w (RetStr (wordK 8) w) := by
 have HB := hbW w
 go_enter Tryz.func62, Tryz.ntmps62
 go_wp2_with fail
 go_ret
 exact ⟨rfl, HB.out⟩
theorem wordK_no (k : Int) (h : k < 1 ∨ 8 < k) : wordK k = [] := by
 unfold wordK
 rw [if_neg (by omega), if_neg (by omega), if_neg (by omega), if_neg (by omega), if_neg (by omega), if_neg (by omega), if_neg (by omega), if_neg (by omega)]
theorem wordK_yes (k : Int) (h1 : 1 ≤ k) (h8 : k ≤ 8) : wordK k ≠ [] := by
 have : k = 1 ∨ k = 2 ∨ k = 3 ∨ k = 4 ∨ k = 5 ∨ k = 6 ∨ k = 7 ∨ k = 8 := by omega
 rcases this with rfl | rfl | rfl | rfl | rfl | rfl | rfl | rfl <;> decide
set_option maxRecDepth 100000 in
theorem refWd_any (k : Int) (w : World) : Calls Tryz.prog 62 #[.int .i64 k] w (RetStr (wordK k) w) := by
 by_cases h1 : k < 1
 · have HF := hD (wordK_no k (.inl h1))
   have HB := hbW w
   go_enter Tryz.func62, Tryz.ntmps62
   go_wp2_with fail
   go_ret
   exact ret_st (by rw [HF.out]) HB.out
 by_cases h8 : 8 < k
 · have HF := hD (wordK_no k (.inr h8))
   have h9 : (9 : Int) ≤ k := by omega
   have HB := hbW w
   go_enter Tryz.func62, Tryz.ntmps62
   go_wp2_with fail
   go_ret
   exact ret_st (by rw [HF.out]) HB.out
 have : k = 1 ∨ k = 2 ∨ k = 3 ∨ k = 4 ∨ k = 5 ∨ k = 6 ∨ k = 7 ∨ k = 8 := by omega
 rcases this with rfl | rfl | rfl | rfl | rfl | rfl | rfl | rfl
 · exact refWd1 w
 · exact refWd2 w
 · exact refWd3 w
 · exact refWd4 w
 · exact refWd5 w
 · exact refWd6 w
 · exact refWd7 w
 · exact refWd8 w
set_option maxRecDepth 100000 in
set_option maxHeartbeats 1000000 in
theorem refOp_any (s : List UInt8) (w : World) (hs : s.length ≤ 300000) : Calls Tryz.prog 64 #[.string ⟨s.toArray⟩] w (RetBool (opOk s) w) := by
 have HP := hD (refParse_any ⟨s.toArray⟩ w (by simpa [ByteArray.size] using hs))
 go_enter Tryz.func64, Tryz.ntmps64
 go_wp2_with fail
 refine HP.out.mono ?_
 rintro e w2 ⟨⟨a, b, c, d, rfl⟩, b2⟩
 have HB := hD b2
 clear b2
 cases hq : opOk s with
 | true =>
  go_wp2_with fail
  go_ret
  exact ret_bl hq (bon HB.out (below_new _ _))
 | false =>
  go_wp2_with fail
  go_ret
  exact ret_bl hq (bon HB.out (below_new _ _))
set_option maxRecDepth 100000 in
set_option maxHeartbeats 16000000 in
theorem refGood_any (x : Pt) (w : World) (E : List UInt8 → Bool) (hE : x.kind = 3 ∨ x.kind = 4 → ∀ W, Below w.heap.size w W → Calls Tryz.prog 65 #[.string ⟨x.text.toArray⟩] W (RetBool (E x.text) W)) (hok : x.ok w) (hs : x.msg.sz ≤ 16777216) (ht : x.text.length ≤ 300000) : Calls Tryz.prog 37 #[.agg (ptC x).toArray] w (RetBool (goodPt E x) w) := by
 have HE := hD hE
 have HOk := hD hok
 have HS := hD hs
 have HX := hD (Vr.new w (ptC x) 40)
 have HB := hD (below_new w (.cells (ptC x).toArray 40))
 clear hE hok hs
 go_enter Tryz.func37, Tryz.ntmps37
 go_upto_region 1 with fail
 change Code.wp _ _ _ _ (w.alloc (.cells (ptC x).toArray 40))
 generalize w.alloc (.cells (ptC x).toArray 40) = w1 at HX HB ⊢
 have cl := HX.out.lt
 by_cases h0 : isKind x.kind = true
 case neg =>
  have h0' : isKind x.kind = false := by simpa using h0
  have HF : Hid (goodPt E x = false) := hD (by unfold goodPt headOk; unfold isKind at h0'; rw [h0']; simp)
  have hw0 : wordK x.kind = [] := wordK_no _ (by simp only [isKind, Bool.and_eq_false_iff, decide_eq_false_iff_not] at h0'; omega)
  have e1 : (wordK x.kind).isEmpty = true := by rw [hw0]; rfl
  have e2 : (wordK x.kind == []) = true := by rw [hw0]; rfl
  clear hw0 h0
  go_wp2_with fail
  refine wp_region_noPanic ?_
  have HX := hD (HX.out.below (Below.refl _ _).drew)
  have HB := hD (HB.out.drew)
  generalize hv : w1.drew = v0 at HX HB
  have hS0 : v0.cell? ⟨w.heap.size, 0, none⟩ = some (.int .i64 x.time) ∧ v0.cell? ⟨w.heap.size, 1, none⟩ = some (.int .i64 x.kind) ∧ v0.cell? ⟨w.heap.size, 3, none⟩ = some (.int .i64 x.slot) ∧ v0.cell? ⟨w.heap.size, 6, none⟩ = some (.string ⟨x.result.toArray⟩) ∧ World.rangeAt v0 w.heap.size 0 (ptC x) := ⟨HX.out.cells 0 _ rfl, HX.out.cells 1 _ rfl, HX.out.cells 3 _ rfl, HX.out.cells 6 _ rfl, HX.out.range⟩
  refine wp_region_held_drew (S := fun W => W.cell? ⟨w.heap.size, 0, none⟩ = some (.int .i64 x.time) ∧ W.cell? ⟨w.heap.size, 1, none⟩ = some (.int .i64 x.kind) ∧ W.cell? ⟨w.heap.size, 3, none⟩ = some (.int .i64 x.slot) ∧ W.cell? ⟨w.heap.size, 6, none⟩ = some (.string ⟨x.result.toArray⟩) ∧ World.rangeAt W w.heap.size 0 (ptC x)) (by kernel_rfl) (by rw [hv]; exact hS0) (fun hHeld => ?_)
  rw [hv] at hHeld ⊢
  clear hv
  refine tkq 0 rfl (v := ?_) (.inl ⟨by rfl, ?_⟩) (by assumption) ?_
  rotate_left
  · intro W h; (try dsimp only at h); go_simp; try with_reducible rfl
  try simp only [Act.put,qk1,qk2,qk3,qk4,qk6]
  refine tkq 1 rfl (v := ?_) (.inl ⟨by rfl, ?_⟩) (by assumption) ?_
  rotate_left
  · intro W h; (try dsimp only at h); go_simp; try with_reducible rfl
  try simp only [Act.put,qk]
  refine tkr 2 rfl (fun K hK => ?_)
  go_simp
  go_at_call 62
  refine (refWd_any x.kind _).mono ?_
  rintro e v1 ⟨rfl, hs⟩
  have HX := hD (HX.out.below hs)
  have HB := hD (bon HB.out hs)
  clear hs
  go_wp2_with fail
  have hSv1 : v1.cell? ⟨w.heap.size, 0, none⟩ = some (.int .i64 x.time) ∧ v1.cell? ⟨w.heap.size, 1, none⟩ = some (.int .i64 x.kind) ∧ v1.cell? ⟨w.heap.size, 3, none⟩ = some (.int .i64 x.slot) ∧ v1.cell? ⟨w.heap.size, 6, none⟩ = some (.string ⟨x.result.toArray⟩) ∧ World.rangeAt v1 w.heap.size 0 (ptC x) := ⟨HX.out.cells 0 _ rfl, HX.out.cells 1 _ rfl, HX.out.cells 3 _ rfl, HX.out.cells 6 _ rfl, HX.out.range⟩
  refine hK.out _ _ hSv1 (fun hHeld => ?_)
  clear hK K
  try simp only [Act.put,qk]
  refine tkq 3 rfl (v := ?_) (.inl ⟨by rfl, ?_⟩) (by assumption) ?_
  rotate_left
  · intro W h; (try dsimp only at h); go_simp; try with_reducible rfl
  try simp only [Act.put,qk]
  refine tkq 4 rfl (v := ?_) (.inl ⟨by rfl, ?_⟩) (by assumption) ?_
  rotate_left
  · intro W h; (try dsimp only at h); go_simp; try with_reducible rfl
  try simp only [Act.put,qk]
  refine tkq 5 rfl (v := undef) (.inr ⟨by rfl, rfl⟩) (by assumption) ?_
  try simp only [Act.put,qk]
  refine tkq 6 rfl (v := undef) (.inr ⟨by rfl, rfl⟩) (by assumption) ?_
  try simp only [Act.put,qk]
  refine tkq 7 rfl (v := undef) (.inr ⟨by rfl, rfl⟩) (by assumption) ?_
  try simp only [Act.put,qk]
  refine tkq 8 rfl (v := ?_) (.inl ⟨by rfl, ?_⟩) (by assumption) ?_
  rotate_left
  · intro W h; (try dsimp only at h); go_simp; try with_reducible rfl
  try simp only [Act.put,qk]
  refine tkq 9 rfl (v := ?_) (.inl ⟨by rfl, ?_⟩) (by assumption) ?_
  rotate_left
  · intro W h; (try dsimp only at h); go_simp; try with_reducible rfl
  try simp only [Act.put,qk]
  refine tkq 10 rfl (v := undef) (.inr ⟨by rfl, rfl⟩) (by assumption) ?_
  try simp only [Act.put,qk]
  refine tkq 11 rfl (v := undef) (.inr ⟨by rfl, rfl⟩) (by assumption) ?_
  try simp only [Act.put,qk]
  refine tkq 12 rfl (v := undef) (.inr ⟨by rfl, rfl⟩) (by assumption) ?_
  try simp only [Act.put,qk]
  refine tkq 13 rfl (v := ?_) (.inl ⟨by rfl, ?_⟩) (by assumption) ?_
  rotate_left
  · intro W h; (try dsimp only at h); go_simp; try with_reducible rfl
  try simp only [Act.put,qk]
  refine tkq 14 rfl (v := ?_) (.inl ⟨by rfl, ?_⟩) (by assumption) ?_
  rotate_left
  · intro W h; (try dsimp only at h); go_simp; try with_reducible rfl
  try simp only [Act.put,qk]
  refine tkq 15 rfl (v := undef) (.inr ⟨by rfl, rfl⟩) (by assumption) ?_
  try simp only [Act.put,qk]
  refine tkq 16 rfl (v := undef) (.inr ⟨by rfl, rfl⟩) (by assumption) ?_
  try simp only [Act.put,qk]
  refine tkq 17 rfl (v := undef) (.inr ⟨by rfl, rfl⟩) (by assumption) ?_
  try simp only [Act.put,qk]
  refine tkq 18 rfl (v := ?_) (.inl ⟨by rfl, ?_⟩) (by assumption) ?_
  rotate_left
  · intro W h; (try dsimp only at h); go_simp; try with_reducible rfl
  try simp only [Act.put,qk]
  refine tkq 19 rfl (v := ?_) (.inl ⟨by rfl, ?_⟩) (by assumption) ?_
  rotate_left
  · intro W h; (try dsimp only at h); go_simp; try with_reducible rfl
  try simp only [Act.put,qk]
  refine tkq 20 rfl (v := undef) (.inr ⟨by rfl, rfl⟩) (by assumption) ?_
  try simp only [Act.put,qk]
  refine tkq 21 rfl (v := undef) (.inr ⟨by rfl, rfl⟩) (by assumption) ?_
  try simp only [Act.put,qk]
  refine tkq 22 rfl (v := undef) (.inr ⟨by rfl, rfl⟩) (by assumption) ?_
  try simp only [Act.put,qk]
  refine tkq 23 rfl (v := undef) (.inr ⟨by rfl, rfl⟩) (by assumption) ?_
  try simp only [Act.put,qk]
  refine tkq 24 rfl (v := ?_) (.inl ⟨by rfl, ?_⟩) (by assumption) ?_
  rotate_left
  · intro W h; (try dsimp only at h); go_simp; try with_reducible rfl
  try simp only [Act.put,qk]
  refine tkq 25 rfl (v := ?_) (.inl ⟨by rfl, ?_⟩) (by assumption) ?_
  rotate_left
  · intro W h; (try dsimp only at h); go_simp; try with_reducible rfl
  try simp only [Act.put,qk]
  refine tkq 26 rfl (v := undef) (.inr ⟨by rfl, rfl⟩) (by assumption) ?_
  try simp only [Act.put,qk]
  refine tkq 27 rfl (v := undef) (.inr ⟨by rfl, rfl⟩) (by assumption) ?_
  try simp only [Act.put,qk]
  refine tkq 28 rfl (v := undef) (.inr ⟨by rfl, rfl⟩) (by assumption) ?_
  try simp only [Act.put,qk]
  refine tkq 29 rfl (v := undef) (.inr ⟨by rfl, rfl⟩) (by assumption) ?_
  try simp only [Act.put,qk]
  refine tkq 30 rfl (v := undef) (.inr ⟨by rfl, rfl⟩) (by assumption) ?_
  try simp only [Act.put,qk]
  refine tkq 31 rfl (v := ?_) (.inl ⟨by rfl, ?_⟩) (by assumption) ?_
  rotate_left
  · intro W h; (try dsimp only at h); go_simp; try with_reducible rfl
  try simp only [Act.put,qk]
  refine wpAnyH_done (by kernel_rfl) ?_ _
  refine NoPanic.normal ?_
  clear hS0
  go_wp2_with fail
  go_ret
  exact ret_bl HF.out HB.out
 have hw0 : wordK x.kind ≠ [] := by
  simp only [isKind, Bool.and_eq_true, decide_eq_true_eq] at h0
  exact wordK_yes _ h0.1 h0.2
 have e1 : (wordK x.kind).isEmpty = false := by simpa using hw0
 have e2 : (wordK x.kind == []) = false := by simpa using hw0
 clear hw0
 by_cases h1 : 0 ≤ x.time
 case neg =>
  have HF : Hid (goodPt E x = false) := hD (by unfold goodPt headOk; rw [decide_eq_false h1]; simp)
  have t1 : x.time < 0 := by omega
  have d1 : decide (x.time < 0) = true := decide_eq_true t1
  clear h0 h1
  go_wp2_with fail
  refine wp_region_noPanic ?_
  have HX := hD (HX.out.below (Below.refl _ _).drew)
  have HB := hD (HB.out.drew)
  generalize hv : w1.drew = v0 at HX HB
  have hS0 : v0.cell? ⟨w.heap.size, 0, none⟩ = some (.int .i64 x.time) ∧ v0.cell? ⟨w.heap.size, 1, none⟩ = some (.int .i64 x.kind) ∧ v0.cell? ⟨w.heap.size, 3, none⟩ = some (.int .i64 x.slot) ∧ v0.cell? ⟨w.heap.size, 6, none⟩ = some (.string ⟨x.result.toArray⟩) ∧ World.rangeAt v0 w.heap.size 0 (ptC x) := ⟨HX.out.cells 0 _ rfl, HX.out.cells 1 _ rfl, HX.out.cells 3 _ rfl, HX.out.cells 6 _ rfl, HX.out.range⟩
  refine wp_region_held_drew (S := fun W => W.cell? ⟨w.heap.size, 0, none⟩ = some (.int .i64 x.time) ∧ W.cell? ⟨w.heap.size, 1, none⟩ = some (.int .i64 x.kind) ∧ W.cell? ⟨w.heap.size, 3, none⟩ = some (.int .i64 x.slot) ∧ W.cell? ⟨w.heap.size, 6, none⟩ = some (.string ⟨x.result.toArray⟩) ∧ World.rangeAt W w.heap.size 0 (ptC x)) (by kernel_rfl) (by rw [hv]; exact hS0) (fun hHeld => ?_)
  rw [hv] at hHeld ⊢
  clear hv
  refine tkq 0 rfl (v := ?_) (.inl ⟨by rfl, ?_⟩) (by assumption) ?_
  rotate_left
  · intro W h; (try dsimp only at h); go_simp; try with_reducible rfl
  try simp only [Act.put,qk1,qk2,qk3,qk4,qk6]
  refine tkq 1 rfl (v := ?_) (.inl ⟨by rfl, ?_⟩) (by assumption) ?_
  rotate_left
  · intro W h; (try dsimp only at h); go_simp; try with_reducible rfl
  try simp only [Act.put,qk]
  refine tkr 2 rfl (fun K hK => ?_)
  go_simp
  go_at_call 62
  refine (refWd_any x.kind _).mono ?_
  rintro e v1 ⟨rfl, hs⟩
  have HX := hD (HX.out.below hs)
  have HB := hD (bon HB.out hs)
  clear hs
  go_wp2_with fail
  have hSv1 : v1.cell? ⟨w.heap.size, 0, none⟩ = some (.int .i64 x.time) ∧ v1.cell? ⟨w.heap.size, 1, none⟩ = some (.int .i64 x.kind) ∧ v1.cell? ⟨w.heap.size, 3, none⟩ = some (.int .i64 x.slot) ∧ v1.cell? ⟨w.heap.size, 6, none⟩ = some (.string ⟨x.result.toArray⟩) ∧ World.rangeAt v1 w.heap.size 0 (ptC x) := ⟨HX.out.cells 0 _ rfl, HX.out.cells 1 _ rfl, HX.out.cells 3 _ rfl, HX.out.cells 6 _ rfl, HX.out.range⟩
  refine hK.out _ _ hSv1 (fun hHeld => ?_)
  clear hK K
  try simp only [Act.put,qk]
  refine tkq 3 rfl (v := ?_) (.inl ⟨by rfl, ?_⟩) (by assumption) ?_
  rotate_left
  · intro W h; (try dsimp only at h); go_simp; try with_reducible rfl
  try simp only [Act.put,qk]
  refine tkq 4 rfl (v := ?_) (.inl ⟨by rfl, ?_⟩) (by assumption) ?_
  rotate_left
  · intro W h; (try dsimp only at h); go_simp; try with_reducible rfl
  try simp only [Act.put,qk]
  refine tkq 5 rfl (v := ?_) (.inl ⟨by rfl, ?_⟩) (by assumption) ?_
  rotate_left
  · intro W h; (try dsimp only at h); go_simp; try with_reducible rfl
  try simp only [Act.put,qk]
  refine tkq 6 rfl (v := ?_) (.inl ⟨by rfl, ?_⟩) (by assumption) ?_
  rotate_left
  · intro W h; (try dsimp only at h); go_simp; try with_reducible rfl
  try simp only [Act.put,qk]
  refine tkq 7 rfl (v := ?_) (.inl ⟨by rfl, ?_⟩) (by assumption) ?_
  rotate_left
  · intro W h; (try dsimp only at h); go_simp; try with_reducible rfl
  try simp only [Act.put,qk]
  refine tkq 8 rfl (v := ?_) (.inl ⟨by rfl, ?_⟩) (by assumption) ?_
  rotate_left
  · intro W h; (try dsimp only at h); go_simp; try with_reducible rfl
  try simp only [Act.put,qk]
  refine tkq 9 rfl (v := ?_) (.inl ⟨by rfl, ?_⟩) (by assumption) ?_
  rotate_left
  · intro W h; (try dsimp only at h); go_simp; try with_reducible rfl
  try simp only [Act.put,qk]
  refine tkq 10 rfl (v := undef) (.inr ⟨by rfl, rfl⟩) (by assumption) ?_
  try simp only [Act.put,qk]
  refine tkq 11 rfl (v := undef) (.inr ⟨by rfl, rfl⟩) (by assumption) ?_
  try simp only [Act.put,qk]
  refine tkq 12 rfl (v := undef) (.inr ⟨by rfl, rfl⟩) (by assumption) ?_
  try simp only [Act.put,qk]
  refine tkq 13 rfl (v := ?_) (.inl ⟨by rfl, ?_⟩) (by assumption) ?_
  rotate_left
  · intro W h; (try dsimp only at h); go_simp; try with_reducible rfl
  try simp only [Act.put,qk]
  refine tkq 14 rfl (v := ?_) (.inl ⟨by rfl, ?_⟩) (by assumption) ?_
  rotate_left
  · intro W h; (try dsimp only at h); go_simp; try with_reducible rfl
  try simp only [Act.put,qk]
  refine tkq 15 rfl (v := undef) (.inr ⟨by rfl, rfl⟩) (by assumption) ?_
  try simp only [Act.put,qk]
  refine tkq 16 rfl (v := undef) (.inr ⟨by rfl, rfl⟩) (by assumption) ?_
  try simp only [Act.put,qk]
  refine tkq 17 rfl (v := undef) (.inr ⟨by rfl, rfl⟩) (by assumption) ?_
  try simp only [Act.put,qk]
  refine tkq 18 rfl (v := ?_) (.inl ⟨by rfl, ?_⟩) (by assumption) ?_
  rotate_left
  · intro W h; (try dsimp only at h); go_simp; try with_reducible rfl
  try simp only [Act.put,qk]
  refine tkq 19 rfl (v := ?_) (.inl ⟨by rfl, ?_⟩) (by assumption) ?_
  rotate_left
  · intro W h; (try dsimp only at h); go_simp; try with_reducible rfl
  try simp only [Act.put,qk]
  refine tkq 20 rfl (v := undef) (.inr ⟨by rfl, rfl⟩) (by assumption) ?_
  try simp only [Act.put,qk]
  refine tkq 21 rfl (v := undef) (.inr ⟨by rfl, rfl⟩) (by assumption) ?_
  try simp only [Act.put,qk]
  refine tkq 22 rfl (v := undef) (.inr ⟨by rfl, rfl⟩) (by assumption) ?_
  try simp only [Act.put,qk]
  refine tkq 23 rfl (v := undef) (.inr ⟨by rfl, rfl⟩) (by assumption) ?_
  try simp only [Act.put,qk]
  refine tkq 24 rfl (v := ?_) (.inl ⟨by rfl, ?_⟩) (by assumption) ?_
  rotate_left
  · intro W h; (try dsimp only at h); go_simp; try with_reducible rfl
  try simp only [Act.put,qk]
  refine tkq 25 rfl (v := ?_) (.inl ⟨by rfl, ?_⟩) (by assumption) ?_
  rotate_left
  · intro W h; (try dsimp only at h); go_simp; try with_reducible rfl
  try simp only [Act.put,qk]
  refine tkq 26 rfl (v := undef) (.inr ⟨by rfl, rfl⟩) (by assumption) ?_
  try simp only [Act.put,qk]
  refine tkq 27 rfl (v := undef) (.inr ⟨by rfl, rfl⟩) (by assumption) ?_
  try simp only [Act.put,qk]
  refine tkq 28 rfl (v := undef) (.inr ⟨by rfl, rfl⟩) (by assumption) ?_
  try simp only [Act.put,qk]
  refine tkq 29 rfl (v := undef) (.inr ⟨by rfl, rfl⟩) (by assumption) ?_
  try simp only [Act.put,qk]
  refine tkq 30 rfl (v := undef) (.inr ⟨by rfl, rfl⟩) (by assumption) ?_
  try simp only [Act.put,qk]
  refine tkq 31 rfl (v := ?_) (.inl ⟨by rfl, ?_⟩) (by assumption) ?_
  rotate_left
  · intro W h; (try dsimp only at h); go_simp; try with_reducible rfl
  try simp only [Act.put,qk]
  refine wpAnyH_done (by kernel_rfl) ?_ _
  refine NoPanic.normal ?_
  clear hS0
  go_wp2_with fail
  go_ret
  exact ret_bl HF.out HB.out
 have t1 : ¬ (x.time < 0) := by omega
 have d1 : decide (x.time < 0) = false := decide_eq_false t1
 by_cases h2 : 0 ≤ x.slot
 case neg =>
  have HF : Hid (goodPt E x = false) := hD (by unfold goodPt headOk; rw [decide_eq_false h2]; simp)
  have t2 : x.slot < 0 := by omega
  have d2 : decide (x.slot < 0) = true := decide_eq_true t2
  clear h0 h1 h2
  go_wp2_with fail
  refine wp_region_noPanic ?_
  have HX := hD (HX.out.below (Below.refl _ _).drew)
  have HB := hD (HB.out.drew)
  generalize hv : w1.drew = v0 at HX HB
  have hS0 : v0.cell? ⟨w.heap.size, 0, none⟩ = some (.int .i64 x.time) ∧ v0.cell? ⟨w.heap.size, 1, none⟩ = some (.int .i64 x.kind) ∧ v0.cell? ⟨w.heap.size, 3, none⟩ = some (.int .i64 x.slot) ∧ v0.cell? ⟨w.heap.size, 6, none⟩ = some (.string ⟨x.result.toArray⟩) ∧ World.rangeAt v0 w.heap.size 0 (ptC x) := ⟨HX.out.cells 0 _ rfl, HX.out.cells 1 _ rfl, HX.out.cells 3 _ rfl, HX.out.cells 6 _ rfl, HX.out.range⟩
  refine wp_region_held_drew (S := fun W => W.cell? ⟨w.heap.size, 0, none⟩ = some (.int .i64 x.time) ∧ W.cell? ⟨w.heap.size, 1, none⟩ = some (.int .i64 x.kind) ∧ W.cell? ⟨w.heap.size, 3, none⟩ = some (.int .i64 x.slot) ∧ W.cell? ⟨w.heap.size, 6, none⟩ = some (.string ⟨x.result.toArray⟩) ∧ World.rangeAt W w.heap.size 0 (ptC x)) (by kernel_rfl) (by rw [hv]; exact hS0) (fun hHeld => ?_)
  rw [hv] at hHeld ⊢
  clear hv
  refine tkq 0 rfl (v := ?_) (.inl ⟨by rfl, ?_⟩) (by assumption) ?_
  rotate_left
  · intro W h; (try dsimp only at h); go_simp; try with_reducible rfl
  try simp only [Act.put,qk1,qk2,qk3,qk4,qk6]
  refine tkq 1 rfl (v := ?_) (.inl ⟨by rfl, ?_⟩) (by assumption) ?_
  rotate_left
  · intro W h; (try dsimp only at h); go_simp; try with_reducible rfl
  try simp only [Act.put,qk]
  refine tkr 2 rfl (fun K hK => ?_)
  go_simp
  go_at_call 62
  refine (refWd_any x.kind _).mono ?_
  rintro e v1 ⟨rfl, hs⟩
  have HX := hD (HX.out.below hs)
  have HB := hD (bon HB.out hs)
  clear hs
  go_wp2_with fail
  have hSv1 : v1.cell? ⟨w.heap.size, 0, none⟩ = some (.int .i64 x.time) ∧ v1.cell? ⟨w.heap.size, 1, none⟩ = some (.int .i64 x.kind) ∧ v1.cell? ⟨w.heap.size, 3, none⟩ = some (.int .i64 x.slot) ∧ v1.cell? ⟨w.heap.size, 6, none⟩ = some (.string ⟨x.result.toArray⟩) ∧ World.rangeAt v1 w.heap.size 0 (ptC x) := ⟨HX.out.cells 0 _ rfl, HX.out.cells 1 _ rfl, HX.out.cells 3 _ rfl, HX.out.cells 6 _ rfl, HX.out.range⟩
  refine hK.out _ _ hSv1 (fun hHeld => ?_)
  clear hK K
  try simp only [Act.put,qk]
  refine tkq 3 rfl (v := ?_) (.inl ⟨by rfl, ?_⟩) (by assumption) ?_
  rotate_left
  · intro W h; (try dsimp only at h); go_simp; try with_reducible rfl
  try simp only [Act.put,qk]
  refine tkq 4 rfl (v := ?_) (.inl ⟨by rfl, ?_⟩) (by assumption) ?_
  rotate_left
  · intro W h; (try dsimp only at h); go_simp; try with_reducible rfl
  try simp only [Act.put,qk]
  refine tkq 5 rfl (v := ?_) (.inl ⟨by rfl, ?_⟩) (by assumption) ?_
  rotate_left
  · intro W h; (try dsimp only at h); go_simp; try with_reducible rfl
  try simp only [Act.put,qk]
  refine tkq 6 rfl (v := ?_) (.inl ⟨by rfl, ?_⟩) (by assumption) ?_
  rotate_left
  · intro W h; (try dsimp only at h); go_simp; try with_reducible rfl
  try simp only [Act.put,qk]
  refine tkq 7 rfl (v := ?_) (.inl ⟨by rfl, ?_⟩) (by assumption) ?_
  rotate_left
  · intro W h; (try dsimp only at h); go_simp; try with_reducible rfl
  try simp only [Act.put,qk]
  refine tkq 8 rfl (v := ?_) (.inl ⟨by rfl, ?_⟩) (by assumption) ?_
  rotate_left
  · intro W h; (try dsimp only at h); go_simp; try with_reducible rfl
  try simp only [Act.put,qk]
  refine tkq 9 rfl (v := ?_) (.inl ⟨by rfl, ?_⟩) (by assumption) ?_
  rotate_left
  · intro W h; (try dsimp only at h); go_simp; try with_reducible rfl
  try simp only [Act.put,qk]
  refine tkq 10 rfl (v := ?_) (.inl ⟨by rfl, ?_⟩) (by assumption) ?_
  rotate_left
  · intro W h; (try dsimp only at h); go_simp; try with_reducible rfl
  try simp only [Act.put,qk]
  refine tkq 11 rfl (v := ?_) (.inl ⟨by rfl, ?_⟩) (by assumption) ?_
  rotate_left
  · intro W h; (try dsimp only at h); go_simp; try with_reducible rfl
  try simp only [Act.put,qk]
  refine tkq 12 rfl (v := ?_) (.inl ⟨by rfl, ?_⟩) (by assumption) ?_
  rotate_left
  · intro W h; (try dsimp only at h); go_simp; try with_reducible rfl
  try simp only [Act.put,qk]
  refine tkq 13 rfl (v := ?_) (.inl ⟨by rfl, ?_⟩) (by assumption) ?_
  rotate_left
  · intro W h; (try dsimp only at h); go_simp; try with_reducible rfl
  try simp only [Act.put,qk]
  refine tkq 14 rfl (v := ?_) (.inl ⟨by rfl, ?_⟩) (by assumption) ?_
  rotate_left
  · intro W h; (try dsimp only at h); go_simp; try with_reducible rfl
  try simp only [Act.put,qk]
  refine tkq 15 rfl (v := undef) (.inr ⟨by rfl, rfl⟩) (by assumption) ?_
  try simp only [Act.put,qk]
  refine tkq 16 rfl (v := undef) (.inr ⟨by rfl, rfl⟩) (by assumption) ?_
  try simp only [Act.put,qk]
  refine tkq 17 rfl (v := undef) (.inr ⟨by rfl, rfl⟩) (by assumption) ?_
  try simp only [Act.put,qk]
  refine tkq 18 rfl (v := ?_) (.inl ⟨by rfl, ?_⟩) (by assumption) ?_
  rotate_left
  · intro W h; (try dsimp only at h); go_simp; try with_reducible rfl
  try simp only [Act.put,qk]
  refine tkq 19 rfl (v := ?_) (.inl ⟨by rfl, ?_⟩) (by assumption) ?_
  rotate_left
  · intro W h; (try dsimp only at h); go_simp; try with_reducible rfl
  try simp only [Act.put,qk]
  refine tkq 20 rfl (v := undef) (.inr ⟨by rfl, rfl⟩) (by assumption) ?_
  try simp only [Act.put,qk]
  refine tkq 21 rfl (v := undef) (.inr ⟨by rfl, rfl⟩) (by assumption) ?_
  try simp only [Act.put,qk]
  refine tkq 22 rfl (v := undef) (.inr ⟨by rfl, rfl⟩) (by assumption) ?_
  try simp only [Act.put,qk]
  refine tkq 23 rfl (v := undef) (.inr ⟨by rfl, rfl⟩) (by assumption) ?_
  try simp only [Act.put,qk]
  refine tkq 24 rfl (v := ?_) (.inl ⟨by rfl, ?_⟩) (by assumption) ?_
  rotate_left
  · intro W h; (try dsimp only at h); go_simp; try with_reducible rfl
  try simp only [Act.put,qk]
  refine tkq 25 rfl (v := ?_) (.inl ⟨by rfl, ?_⟩) (by assumption) ?_
  rotate_left
  · intro W h; (try dsimp only at h); go_simp; try with_reducible rfl
  try simp only [Act.put,qk]
  refine tkq 26 rfl (v := undef) (.inr ⟨by rfl, rfl⟩) (by assumption) ?_
  try simp only [Act.put,qk]
  refine tkq 27 rfl (v := undef) (.inr ⟨by rfl, rfl⟩) (by assumption) ?_
  try simp only [Act.put,qk]
  refine tkq 28 rfl (v := undef) (.inr ⟨by rfl, rfl⟩) (by assumption) ?_
  try simp only [Act.put,qk]
  refine tkq 29 rfl (v := undef) (.inr ⟨by rfl, rfl⟩) (by assumption) ?_
  try simp only [Act.put,qk]
  refine tkq 30 rfl (v := undef) (.inr ⟨by rfl, rfl⟩) (by assumption) ?_
  try simp only [Act.put,qk]
  refine tkq 31 rfl (v := ?_) (.inl ⟨by rfl, ?_⟩) (by assumption) ?_
  rotate_left
  · intro W h; (try dsimp only at h); go_simp; try with_reducible rfl
  try simp only [Act.put,qk]
  refine wpAnyH_done (by kernel_rfl) ?_ _
  refine NoPanic.normal ?_
  clear hS0
  go_wp2_with fail
  go_ret
  exact ret_bl HF.out HB.out
 have t2 : ¬ (x.slot < 0) := by omega
 have d2 : decide (x.slot < 0) = false := decide_eq_false t2
 by_cases h3 : x.slot ≤ 2147483647
 case neg =>
  have HF : Hid (goodPt E x = false) := hD (by unfold goodPt headOk; rw [decide_eq_false h3]; simp)
  have t3 : 2147483647 < x.slot := by omega
  have d3 : decide (2147483647 < x.slot) = true := decide_eq_true t3
  clear h0 h1 h2 h3
  go_wp2_with fail
  refine wp_region_noPanic ?_
  have HX := hD (HX.out.below (Below.refl _ _).drew)
  have HB := hD (HB.out.drew)
  generalize hv : w1.drew = v0 at HX HB
  have hS0 : v0.cell? ⟨w.heap.size, 0, none⟩ = some (.int .i64 x.time) ∧ v0.cell? ⟨w.heap.size, 1, none⟩ = some (.int .i64 x.kind) ∧ v0.cell? ⟨w.heap.size, 3, none⟩ = some (.int .i64 x.slot) ∧ v0.cell? ⟨w.heap.size, 6, none⟩ = some (.string ⟨x.result.toArray⟩) ∧ World.rangeAt v0 w.heap.size 0 (ptC x) := ⟨HX.out.cells 0 _ rfl, HX.out.cells 1 _ rfl, HX.out.cells 3 _ rfl, HX.out.cells 6 _ rfl, HX.out.range⟩
  refine wp_region_held_drew (S := fun W => W.cell? ⟨w.heap.size, 0, none⟩ = some (.int .i64 x.time) ∧ W.cell? ⟨w.heap.size, 1, none⟩ = some (.int .i64 x.kind) ∧ W.cell? ⟨w.heap.size, 3, none⟩ = some (.int .i64 x.slot) ∧ W.cell? ⟨w.heap.size, 6, none⟩ = some (.string ⟨x.result.toArray⟩) ∧ World.rangeAt W w.heap.size 0 (ptC x)) (by kernel_rfl) (by rw [hv]; exact hS0) (fun hHeld => ?_)
  rw [hv] at hHeld ⊢
  clear hv
  refine tkq 0 rfl (v := ?_) (.inl ⟨by rfl, ?_⟩) (by assumption) ?_
  rotate_left
  · intro W h; (try dsimp only at h); go_simp; try with_reducible rfl
  try simp only [Act.put,qk1,qk2,qk3,qk4,qk6]
  refine tkq 1 rfl (v := ?_) (.inl ⟨by rfl, ?_⟩) (by assumption) ?_
  rotate_left
  · intro W h; (try dsimp only at h); go_simp; try with_reducible rfl
  try simp only [Act.put,qk]
  refine tkr 2 rfl (fun K hK => ?_)
  go_simp
  go_at_call 62
  refine (refWd_any x.kind _).mono ?_
  rintro e v1 ⟨rfl, hs⟩
  have HX := hD (HX.out.below hs)
  have HB := hD (bon HB.out hs)
  clear hs
  go_wp2_with fail
  have hSv1 : v1.cell? ⟨w.heap.size, 0, none⟩ = some (.int .i64 x.time) ∧ v1.cell? ⟨w.heap.size, 1, none⟩ = some (.int .i64 x.kind) ∧ v1.cell? ⟨w.heap.size, 3, none⟩ = some (.int .i64 x.slot) ∧ v1.cell? ⟨w.heap.size, 6, none⟩ = some (.string ⟨x.result.toArray⟩) ∧ World.rangeAt v1 w.heap.size 0 (ptC x) := ⟨HX.out.cells 0 _ rfl, HX.out.cells 1 _ rfl, HX.out.cells 3 _ rfl, HX.out.cells 6 _ rfl, HX.out.range⟩
  refine hK.out _ _ hSv1 (fun hHeld => ?_)
  clear hK K
  try simp only [Act.put,qk]
  refine tkq 3 rfl (v := ?_) (.inl ⟨by rfl, ?_⟩) (by assumption) ?_
  rotate_left
  · intro W h; (try dsimp only at h); go_simp; try with_reducible rfl
  try simp only [Act.put,qk]
  refine tkq 4 rfl (v := ?_) (.inl ⟨by rfl, ?_⟩) (by assumption) ?_
  rotate_left
  · intro W h; (try dsimp only at h); go_simp; try with_reducible rfl
  try simp only [Act.put,qk]
  refine tkq 5 rfl (v := ?_) (.inl ⟨by rfl, ?_⟩) (by assumption) ?_
  rotate_left
  · intro W h; (try dsimp only at h); go_simp; try with_reducible rfl
  try simp only [Act.put,qk]
  refine tkq 6 rfl (v := ?_) (.inl ⟨by rfl, ?_⟩) (by assumption) ?_
  rotate_left
  · intro W h; (try dsimp only at h); go_simp; try with_reducible rfl
  try simp only [Act.put,qk]
  refine tkq 7 rfl (v := ?_) (.inl ⟨by rfl, ?_⟩) (by assumption) ?_
  rotate_left
  · intro W h; (try dsimp only at h); go_simp; try with_reducible rfl
  try simp only [Act.put,qk]
  refine tkq 8 rfl (v := ?_) (.inl ⟨by rfl, ?_⟩) (by assumption) ?_
  rotate_left
  · intro W h; (try dsimp only at h); go_simp; try with_reducible rfl
  try simp only [Act.put,qk]
  refine tkq 9 rfl (v := ?_) (.inl ⟨by rfl, ?_⟩) (by assumption) ?_
  rotate_left
  · intro W h; (try dsimp only at h); go_simp; try with_reducible rfl
  try simp only [Act.put,qk]
  refine tkq 10 rfl (v := ?_) (.inl ⟨by rfl, ?_⟩) (by assumption) ?_
  rotate_left
  · intro W h; (try dsimp only at h); go_simp; try with_reducible rfl
  try simp only [Act.put,qk]
  refine tkq 11 rfl (v := ?_) (.inl ⟨by rfl, ?_⟩) (by assumption) ?_
  rotate_left
  · intro W h; (try dsimp only at h); go_simp; try with_reducible rfl
  try simp only [Act.put,qk]
  refine tkq 12 rfl (v := ?_) (.inl ⟨by rfl, ?_⟩) (by assumption) ?_
  rotate_left
  · intro W h; (try dsimp only at h); go_simp; try with_reducible rfl
  try simp only [Act.put,qk]
  refine tkq 13 rfl (v := ?_) (.inl ⟨by rfl, ?_⟩) (by assumption) ?_
  rotate_left
  · intro W h; (try dsimp only at h); go_simp; try with_reducible rfl
  try simp only [Act.put,qk]
  refine tkq 14 rfl (v := ?_) (.inl ⟨by rfl, ?_⟩) (by assumption) ?_
  rotate_left
  · intro W h; (try dsimp only at h); go_simp; try with_reducible rfl
  try simp only [Act.put,qk]
  refine tkq 15 rfl (v := ?_) (.inl ⟨by rfl, ?_⟩) (by assumption) ?_
  rotate_left
  · intro W h; (try dsimp only at h); go_simp; try with_reducible rfl
  try simp only [Act.put,qk]
  refine tkq 16 rfl (v := ?_) (.inl ⟨by rfl, ?_⟩) (by assumption) ?_
  rotate_left
  · intro W h; (try dsimp only at h); go_simp; try with_reducible rfl
  try simp only [Act.put,qk]
  refine tkq 17 rfl (v := ?_) (.inl ⟨by rfl, ?_⟩) (by assumption) ?_
  rotate_left
  · intro W h; (try dsimp only at h); go_simp; try with_reducible rfl
  try simp only [Act.put,qk]
  refine tkq 18 rfl (v := ?_) (.inl ⟨by rfl, ?_⟩) (by assumption) ?_
  rotate_left
  · intro W h; (try dsimp only at h); go_simp; try with_reducible rfl
  try simp only [Act.put,qk]
  refine tkq 19 rfl (v := ?_) (.inl ⟨by rfl, ?_⟩) (by assumption) ?_
  rotate_left
  · intro W h; (try dsimp only at h); go_simp; try with_reducible rfl
  try simp only [Act.put,qk]
  refine tkq 20 rfl (v := undef) (.inr ⟨by rfl, rfl⟩) (by assumption) ?_
  try simp only [Act.put,qk]
  refine tkq 21 rfl (v := undef) (.inr ⟨by rfl, rfl⟩) (by assumption) ?_
  try simp only [Act.put,qk]
  refine tkq 22 rfl (v := undef) (.inr ⟨by rfl, rfl⟩) (by assumption) ?_
  try simp only [Act.put,qk]
  refine tkq 23 rfl (v := undef) (.inr ⟨by rfl, rfl⟩) (by assumption) ?_
  try simp only [Act.put,qk]
  refine tkq 24 rfl (v := ?_) (.inl ⟨by rfl, ?_⟩) (by assumption) ?_
  rotate_left
  · intro W h; (try dsimp only at h); go_simp; try with_reducible rfl
  try simp only [Act.put,qk]
  refine tkq 25 rfl (v := ?_) (.inl ⟨by rfl, ?_⟩) (by assumption) ?_
  rotate_left
  · intro W h; (try dsimp only at h); go_simp; try with_reducible rfl
  try simp only [Act.put,qk]
  refine tkq 26 rfl (v := undef) (.inr ⟨by rfl, rfl⟩) (by assumption) ?_
  try simp only [Act.put,qk]
  refine tkq 27 rfl (v := undef) (.inr ⟨by rfl, rfl⟩) (by assumption) ?_
  try simp only [Act.put,qk]
  refine tkq 28 rfl (v := undef) (.inr ⟨by rfl, rfl⟩) (by assumption) ?_
  try simp only [Act.put,qk]
  refine tkq 29 rfl (v := undef) (.inr ⟨by rfl, rfl⟩) (by assumption) ?_
  try simp only [Act.put,qk]
  refine tkq 30 rfl (v := undef) (.inr ⟨by rfl, rfl⟩) (by assumption) ?_
  try simp only [Act.put,qk]
  refine tkq 31 rfl (v := ?_) (.inl ⟨by rfl, ?_⟩) (by assumption) ?_
  rotate_left
  · intro W h; (try dsimp only at h); go_simp; try with_reducible rfl
  try simp only [Act.put,qk]
  refine wpAnyH_done (by kernel_rfl) ?_ _
  refine NoPanic.normal ?_
  clear hS0
  go_wp2_with fail
  go_ret
  exact ret_bl HF.out HB.out
 have t3 : ¬ (2147483647 < x.slot) := by omega
 have d3 : decide (2147483647 < x.slot) = false := decide_eq_false t3
 by_cases h4 : x.result.length ≤ 400
 case neg =>
  have HF : Hid (goodPt E x = false) := hD (by unfold goodPt headOk; rw [decide_eq_false h4]; simp)
  have t4 : (400 : Int) < (x.result.length : Int) := by omega
  have d4 : decide ((400 : Int) < (x.result.length : Int)) = true := decide_eq_true t4
  clear h0 h1 h2 h3 h4
  go_wp2_with fail
  refine wp_region_noPanic ?_
  have HX := hD (HX.out.below (Below.refl _ _).drew)
  have HB := hD (HB.out.drew)
  generalize hv : w1.drew = v0 at HX HB
  have hS0 : v0.cell? ⟨w.heap.size, 0, none⟩ = some (.int .i64 x.time) ∧ v0.cell? ⟨w.heap.size, 1, none⟩ = some (.int .i64 x.kind) ∧ v0.cell? ⟨w.heap.size, 3, none⟩ = some (.int .i64 x.slot) ∧ v0.cell? ⟨w.heap.size, 6, none⟩ = some (.string ⟨x.result.toArray⟩) ∧ World.rangeAt v0 w.heap.size 0 (ptC x) := ⟨HX.out.cells 0 _ rfl, HX.out.cells 1 _ rfl, HX.out.cells 3 _ rfl, HX.out.cells 6 _ rfl, HX.out.range⟩
  refine wp_region_held_drew (S := fun W => W.cell? ⟨w.heap.size, 0, none⟩ = some (.int .i64 x.time) ∧ W.cell? ⟨w.heap.size, 1, none⟩ = some (.int .i64 x.kind) ∧ W.cell? ⟨w.heap.size, 3, none⟩ = some (.int .i64 x.slot) ∧ W.cell? ⟨w.heap.size, 6, none⟩ = some (.string ⟨x.result.toArray⟩) ∧ World.rangeAt W w.heap.size 0 (ptC x)) (by kernel_rfl) (by rw [hv]; exact hS0) (fun hHeld => ?_)
  rw [hv] at hHeld ⊢
  clear hv
  refine tkq 0 rfl (v := ?_) (.inl ⟨by rfl, ?_⟩) (by assumption) ?_
  rotate_left
  · intro W h; (try dsimp only at h); go_simp; try with_reducible rfl
  try simp only [Act.put,qk1,qk2,qk3,qk4,qk6]
  refine tkq 1 rfl (v := ?_) (.inl ⟨by rfl, ?_⟩) (by assumption) ?_
  rotate_left
  · intro W h; (try dsimp only at h); go_simp; try with_reducible rfl
  try simp only [Act.put,qk]
  refine tkr 2 rfl (fun K hK => ?_)
  go_simp
  go_at_call 62
  refine (refWd_any x.kind _).mono ?_
  rintro e v1 ⟨rfl, hs⟩
  have HX := hD (HX.out.below hs)
  have HB := hD (bon HB.out hs)
  clear hs
  go_wp2_with fail
  have hSv1 : v1.cell? ⟨w.heap.size, 0, none⟩ = some (.int .i64 x.time) ∧ v1.cell? ⟨w.heap.size, 1, none⟩ = some (.int .i64 x.kind) ∧ v1.cell? ⟨w.heap.size, 3, none⟩ = some (.int .i64 x.slot) ∧ v1.cell? ⟨w.heap.size, 6, none⟩ = some (.string ⟨x.result.toArray⟩) ∧ World.rangeAt v1 w.heap.size 0 (ptC x) := ⟨HX.out.cells 0 _ rfl, HX.out.cells 1 _ rfl, HX.out.cells 3 _ rfl, HX.out.cells 6 _ rfl, HX.out.range⟩
  refine hK.out _ _ hSv1 (fun hHeld => ?_)
  clear hK K
  try simp only [Act.put,qk]
  refine tkq 3 rfl (v := ?_) (.inl ⟨by rfl, ?_⟩) (by assumption) ?_
  rotate_left
  · intro W h; (try dsimp only at h); go_simp; try with_reducible rfl
  try simp only [Act.put,qk]
  refine tkq 4 rfl (v := ?_) (.inl ⟨by rfl, ?_⟩) (by assumption) ?_
  rotate_left
  · intro W h; (try dsimp only at h); go_simp; try with_reducible rfl
  try simp only [Act.put,qk]
  refine tkq 5 rfl (v := ?_) (.inl ⟨by rfl, ?_⟩) (by assumption) ?_
  rotate_left
  · intro W h; (try dsimp only at h); go_simp; try with_reducible rfl
  try simp only [Act.put,qk]
  refine tkq 6 rfl (v := ?_) (.inl ⟨by rfl, ?_⟩) (by assumption) ?_
  rotate_left
  · intro W h; (try dsimp only at h); go_simp; try with_reducible rfl
  try simp only [Act.put,qk]
  refine tkq 7 rfl (v := ?_) (.inl ⟨by rfl, ?_⟩) (by assumption) ?_
  rotate_left
  · intro W h; (try dsimp only at h); go_simp; try with_reducible rfl
  try simp only [Act.put,qk]
  refine tkq 8 rfl (v := ?_) (.inl ⟨by rfl, ?_⟩) (by assumption) ?_
  rotate_left
  · intro W h; (try dsimp only at h); go_simp; try with_reducible rfl
  try simp only [Act.put,qk]
  refine tkq 9 rfl (v := ?_) (.inl ⟨by rfl, ?_⟩) (by assumption) ?_
  rotate_left
  · intro W h; (try dsimp only at h); go_simp; try with_reducible rfl
  try simp only [Act.put,qk]
  refine tkq 10 rfl (v := ?_) (.inl ⟨by rfl, ?_⟩) (by assumption) ?_
  rotate_left
  · intro W h; (try dsimp only at h); go_simp; try with_reducible rfl
  try simp only [Act.put,qk]
  refine tkq 11 rfl (v := ?_) (.inl ⟨by rfl, ?_⟩) (by assumption) ?_
  rotate_left
  · intro W h; (try dsimp only at h); go_simp; try with_reducible rfl
  try simp only [Act.put,qk]
  refine tkq 12 rfl (v := ?_) (.inl ⟨by rfl, ?_⟩) (by assumption) ?_
  rotate_left
  · intro W h; (try dsimp only at h); go_simp; try with_reducible rfl
  try simp only [Act.put,qk]
  refine tkq 13 rfl (v := ?_) (.inl ⟨by rfl, ?_⟩) (by assumption) ?_
  rotate_left
  · intro W h; (try dsimp only at h); go_simp; try with_reducible rfl
  try simp only [Act.put,qk]
  refine tkq 14 rfl (v := ?_) (.inl ⟨by rfl, ?_⟩) (by assumption) ?_
  rotate_left
  · intro W h; (try dsimp only at h); go_simp; try with_reducible rfl
  try simp only [Act.put,qk]
  refine tkq 15 rfl (v := ?_) (.inl ⟨by rfl, ?_⟩) (by assumption) ?_
  rotate_left
  · intro W h; (try dsimp only at h); go_simp; try with_reducible rfl
  try simp only [Act.put,qk]
  refine tkq 16 rfl (v := ?_) (.inl ⟨by rfl, ?_⟩) (by assumption) ?_
  rotate_left
  · intro W h; (try dsimp only at h); go_simp; try with_reducible rfl
  try simp only [Act.put,qk]
  refine tkq 17 rfl (v := ?_) (.inl ⟨by rfl, ?_⟩) (by assumption) ?_
  rotate_left
  · intro W h; (try dsimp only at h); go_simp; try with_reducible rfl
  try simp only [Act.put,qk]
  refine tkq 18 rfl (v := ?_) (.inl ⟨by rfl, ?_⟩) (by assumption) ?_
  rotate_left
  · intro W h; (try dsimp only at h); go_simp; try with_reducible rfl
  try simp only [Act.put,qk]
  refine tkq 19 rfl (v := ?_) (.inl ⟨by rfl, ?_⟩) (by assumption) ?_
  rotate_left
  · intro W h; (try dsimp only at h); go_simp; try with_reducible rfl
  try simp only [Act.put,qk]
  refine tkq 20 rfl (v := ?_) (.inl ⟨by rfl, ?_⟩) (by assumption) ?_
  rotate_left
  · intro W h; (try dsimp only at h); go_simp; try with_reducible rfl
  try simp only [Act.put,qk]
  refine tkq 21 rfl (v := ?_) (.inl ⟨by rfl, ?_⟩) (by assumption) ?_
  rotate_left
  · intro W h; (try dsimp only at h); go_simp; try with_reducible rfl
  try simp only [Act.put,qk]
  refine tkq 22 rfl (v := ?_) (.inl ⟨by rfl, ?_⟩) (by assumption) ?_
  rotate_left
  · intro W h; (try dsimp only at h); go_simp; try with_reducible rfl
  try simp only [Act.put,qk]
  refine tkq 23 rfl (v := ?_) (.inl ⟨by rfl, ?_⟩) (by assumption) ?_
  rotate_left
  · intro W h; (try dsimp only at h); go_simp; try with_reducible rfl
  try simp only [Act.put,qk]
  refine tkq 24 rfl (v := ?_) (.inl ⟨by rfl, ?_⟩) (by assumption) ?_
  rotate_left
  · intro W h; (try dsimp only at h); go_simp; try with_reducible rfl
  try simp only [Act.put,qk]
  refine tkq 25 rfl (v := ?_) (.inl ⟨by rfl, ?_⟩) (by assumption) ?_
  rotate_left
  · intro W h; (try dsimp only at h); go_simp; try with_reducible rfl
  try simp only [Act.put,qk]
  refine tkq 26 rfl (v := undef) (.inr ⟨by rfl, rfl⟩) (by assumption) ?_
  try simp only [Act.put,qk]
  refine tkq 27 rfl (v := undef) (.inr ⟨by rfl, rfl⟩) (by assumption) ?_
  try simp only [Act.put,qk]
  refine tkq 28 rfl (v := undef) (.inr ⟨by rfl, rfl⟩) (by assumption) ?_
  try simp only [Act.put,qk]
  refine tkq 29 rfl (v := undef) (.inr ⟨by rfl, rfl⟩) (by assumption) ?_
  try simp only [Act.put,qk]
  refine tkq 30 rfl (v := undef) (.inr ⟨by rfl, rfl⟩) (by assumption) ?_
  try simp only [Act.put,qk]
  refine tkq 31 rfl (v := ?_) (.inl ⟨by rfl, ?_⟩) (by assumption) ?_
  rotate_left
  · intro W h; (try dsimp only at h); go_simp; try with_reducible rfl
  try simp only [Act.put,qk]
  refine wpAnyH_done (by kernel_rfl) ?_ _
  refine NoPanic.normal ?_
  clear hS0
  go_wp2_with fail
  go_ret
  exact ret_bl HF.out HB.out
 have t4 : ¬ ((400 : Int) < (x.result.length : Int)) := by omega
 have d4 : decide ((400 : Int) < (x.result.length : Int)) = false := decide_eq_false t4
 have HH : Hid (headOk x = true) := hD (by
  unfold isKind at h0
  unfold headOk
  rw [h0, decide_eq_true h1, decide_eq_true h2, decide_eq_true h3, decide_eq_true h4]; rfl)
 clear h0 h1 h2 h3 h4
 cases hq : eqPt x (keptPt x) with
 | false =>
  have HF : Hid (goodPt E x = false) := hD (by unfold goodPt; rw [hq]; simp)
  have HQ := hD hq
  clear hq
  go_wp2_with fail
  refine wp_region_noPanic ?_
  have HX := hD (HX.out.below (Below.refl _ _).drew)
  have HB := hD (HB.out.drew)
  generalize hv : w1.drew = v0 at HX HB
  have hS0 : v0.cell? ⟨w.heap.size, 0, none⟩ = some (.int .i64 x.time) ∧ v0.cell? ⟨w.heap.size, 1, none⟩ = some (.int .i64 x.kind) ∧ v0.cell? ⟨w.heap.size, 3, none⟩ = some (.int .i64 x.slot) ∧ v0.cell? ⟨w.heap.size, 6, none⟩ = some (.string ⟨x.result.toArray⟩) ∧ World.rangeAt v0 w.heap.size 0 (ptC x) := ⟨HX.out.cells 0 _ rfl, HX.out.cells 1 _ rfl, HX.out.cells 3 _ rfl, HX.out.cells 6 _ rfl, HX.out.range⟩
  refine wp_region_held_drew (S := fun W => W.cell? ⟨w.heap.size, 0, none⟩ = some (.int .i64 x.time) ∧ W.cell? ⟨w.heap.size, 1, none⟩ = some (.int .i64 x.kind) ∧ W.cell? ⟨w.heap.size, 3, none⟩ = some (.int .i64 x.slot) ∧ W.cell? ⟨w.heap.size, 6, none⟩ = some (.string ⟨x.result.toArray⟩) ∧ World.rangeAt W w.heap.size 0 (ptC x)) (by kernel_rfl) (by rw [hv]; exact hS0) (fun hHeld => ?_)
  rw [hv] at hHeld ⊢
  clear hv
  refine tkq 0 rfl (v := ?_) (.inl ⟨by rfl, ?_⟩) (by assumption) ?_
  rotate_left
  · intro W h; (try dsimp only at h); go_simp; try with_reducible rfl
  try simp only [Act.put,qk1,qk2,qk3,qk4,qk6]
  refine tkq 1 rfl (v := ?_) (.inl ⟨by rfl, ?_⟩) (by assumption) ?_
  rotate_left
  · intro W h; (try dsimp only at h); go_simp; try with_reducible rfl
  try simp only [Act.put,qk]
  refine tkr 2 rfl (fun K hK => ?_)
  go_simp
  go_at_call 62
  refine (refWd_any x.kind _).mono ?_
  rintro e v1 ⟨rfl, hs⟩
  have HX := hD (HX.out.below hs)
  have HB := hD (bon HB.out hs)
  clear hs
  go_wp2_with fail
  have hSv1 : v1.cell? ⟨w.heap.size, 0, none⟩ = some (.int .i64 x.time) ∧ v1.cell? ⟨w.heap.size, 1, none⟩ = some (.int .i64 x.kind) ∧ v1.cell? ⟨w.heap.size, 3, none⟩ = some (.int .i64 x.slot) ∧ v1.cell? ⟨w.heap.size, 6, none⟩ = some (.string ⟨x.result.toArray⟩) ∧ World.rangeAt v1 w.heap.size 0 (ptC x) := ⟨HX.out.cells 0 _ rfl, HX.out.cells 1 _ rfl, HX.out.cells 3 _ rfl, HX.out.cells 6 _ rfl, HX.out.range⟩
  refine hK.out _ _ hSv1 (fun hHeld => ?_)
  clear hK K
  try simp only [Act.put,qk]
  refine tkq 3 rfl (v := ?_) (.inl ⟨by rfl, ?_⟩) (by assumption) ?_
  rotate_left
  · intro W h; (try dsimp only at h); go_simp; try with_reducible rfl
  try simp only [Act.put,qk]
  refine tkq 4 rfl (v := ?_) (.inl ⟨by rfl, ?_⟩) (by assumption) ?_
  rotate_left
  · intro W h; (try dsimp only at h); go_simp; try with_reducible rfl
  try simp only [Act.put,qk]
  refine tkq 5 rfl (v := ?_) (.inl ⟨by rfl, ?_⟩) (by assumption) ?_
  rotate_left
  · intro W h; (try dsimp only at h); go_simp; try with_reducible rfl
  try simp only [Act.put,qk]
  refine tkq 6 rfl (v := ?_) (.inl ⟨by rfl, ?_⟩) (by assumption) ?_
  rotate_left
  · intro W h; (try dsimp only at h); go_simp; try with_reducible rfl
  try simp only [Act.put,qk]
  refine tkq 7 rfl (v := ?_) (.inl ⟨by rfl, ?_⟩) (by assumption) ?_
  rotate_left
  · intro W h; (try dsimp only at h); go_simp; try with_reducible rfl
  try simp only [Act.put,qk]
  refine tkq 8 rfl (v := ?_) (.inl ⟨by rfl, ?_⟩) (by assumption) ?_
  rotate_left
  · intro W h; (try dsimp only at h); go_simp; try with_reducible rfl
  try simp only [Act.put,qk]
  refine tkq 9 rfl (v := ?_) (.inl ⟨by rfl, ?_⟩) (by assumption) ?_
  rotate_left
  · intro W h; (try dsimp only at h); go_simp; try with_reducible rfl
  try simp only [Act.put,qk]
  refine tkq 10 rfl (v := ?_) (.inl ⟨by rfl, ?_⟩) (by assumption) ?_
  rotate_left
  · intro W h; (try dsimp only at h); go_simp; try with_reducible rfl
  try simp only [Act.put,qk]
  refine tkq 11 rfl (v := ?_) (.inl ⟨by rfl, ?_⟩) (by assumption) ?_
  rotate_left
  · intro W h; (try dsimp only at h); go_simp; try with_reducible rfl
  try simp only [Act.put,qk]
  refine tkq 12 rfl (v := ?_) (.inl ⟨by rfl, ?_⟩) (by assumption) ?_
  rotate_left
  · intro W h; (try dsimp only at h); go_simp; try with_reducible rfl
  try simp only [Act.put,qk]
  refine tkq 13 rfl (v := ?_) (.inl ⟨by rfl, ?_⟩) (by assumption) ?_
  rotate_left
  · intro W h; (try dsimp only at h); go_simp; try with_reducible rfl
  try simp only [Act.put,qk]
  refine tkq 14 rfl (v := ?_) (.inl ⟨by rfl, ?_⟩) (by assumption) ?_
  rotate_left
  · intro W h; (try dsimp only at h); go_simp; try with_reducible rfl
  try simp only [Act.put,qk]
  refine tkq 15 rfl (v := ?_) (.inl ⟨by rfl, ?_⟩) (by assumption) ?_
  rotate_left
  · intro W h; (try dsimp only at h); go_simp; try with_reducible rfl
  try simp only [Act.put,qk]
  refine tkq 16 rfl (v := ?_) (.inl ⟨by rfl, ?_⟩) (by assumption) ?_
  rotate_left
  · intro W h; (try dsimp only at h); go_simp; try with_reducible rfl
  try simp only [Act.put,qk]
  refine tkq 17 rfl (v := ?_) (.inl ⟨by rfl, ?_⟩) (by assumption) ?_
  rotate_left
  · intro W h; (try dsimp only at h); go_simp; try with_reducible rfl
  try simp only [Act.put,qk]
  refine tkq 18 rfl (v := ?_) (.inl ⟨by rfl, ?_⟩) (by assumption) ?_
  rotate_left
  · intro W h; (try dsimp only at h); go_simp; try with_reducible rfl
  try simp only [Act.put,qk]
  refine tkq 19 rfl (v := ?_) (.inl ⟨by rfl, ?_⟩) (by assumption) ?_
  rotate_left
  · intro W h; (try dsimp only at h); go_simp; try with_reducible rfl
  try simp only [Act.put,qk]
  refine tkq 20 rfl (v := ?_) (.inl ⟨by rfl, ?_⟩) (by assumption) ?_
  rotate_left
  · intro W h; (try dsimp only at h); go_simp; try with_reducible rfl
  try simp only [Act.put,qk]
  refine tkq 21 rfl (v := ?_) (.inl ⟨by rfl, ?_⟩) (by assumption) ?_
  rotate_left
  · intro W h; (try dsimp only at h); go_simp; try with_reducible rfl
  try simp only [Act.put,qk]
  refine tkq 22 rfl (v := ?_) (.inl ⟨by rfl, ?_⟩) (by assumption) ?_
  rotate_left
  · intro W h; (try dsimp only at h); go_simp; try with_reducible rfl
  try simp only [Act.put,qk]
  refine tkq 23 rfl (v := ?_) (.inl ⟨by rfl, ?_⟩) (by assumption) ?_
  rotate_left
  · intro W h; (try dsimp only at h); go_simp; try with_reducible rfl
  try simp only [Act.put,qk]
  refine tkq 24 rfl (v := ?_) (.inl ⟨by rfl, ?_⟩) (by assumption) ?_
  rotate_left
  · intro W h; (try dsimp only at h); go_simp; try with_reducible rfl
  try simp only [Act.put,qk]
  refine tkq 25 rfl (v := ?_) (.inl ⟨by rfl, ?_⟩) (by assumption) ?_
  rotate_left
  · intro W h; (try dsimp only at h); go_simp; try with_reducible rfl
  try simp only [Act.put,qk]
  refine tkq 26 rfl (yieldsIf_load_mid (by rfl) 40 _ (by rfl) _ 0 (by rfl) (ptC x) _ (fun W h => h.2.2.2.2) Tryz.underlying40 rfl (infoPt x)) (by assumption) ?_
  try simp only [Act.put,qk]
  refine tkq 27 rfl (yieldsIf_load_mid (by rfl) 40 _ (by rfl) _ 0 (by rfl) (ptC x) _ (fun W h => h.2.2.2.2) Tryz.underlying40 rfl (infoPt x)) (by assumption) ?_
  try simp only [Act.put,qk]
  refine tkr 28 rfl (fun K hK => ?_)
  go_simp
  go_at_call 63
  refine (refKept_any x _).mono ?_
  rintro e v2 ⟨rfl, hs⟩
  have HX := hD (HX.out.below hs)
  have HB := hD (bon HB.out hs)
  clear hs
  go_wp2_with fail
  have hSv2 : v2.cell? ⟨w.heap.size, 0, none⟩ = some (.int .i64 x.time) ∧ v2.cell? ⟨w.heap.size, 1, none⟩ = some (.int .i64 x.kind) ∧ v2.cell? ⟨w.heap.size, 3, none⟩ = some (.int .i64 x.slot) ∧ v2.cell? ⟨w.heap.size, 6, none⟩ = some (.string ⟨x.result.toArray⟩) ∧ World.rangeAt v2 w.heap.size 0 (ptC x) := ⟨HX.out.cells 0 _ rfl, HX.out.cells 1 _ rfl, HX.out.cells 3 _ rfl, HX.out.cells 6 _ rfl, HX.out.range⟩
  refine hK.out _ _ hSv2 (fun hHeld => ?_)
  clear hK K
  try simp only [Act.put,qk]
  refine tkr 29 rfl (fun K hK => ?_)
  go_simp
  go_at_call 45
  refine ((HQ.out ▸ refEqualPt_any x (keptPt x) _ (Pt.below HOk.out HB.out) (kept_ok (Pt.below HOk.out HB.out)) HS.out (kept_sz HS.out))).mono ?_
  rintro e v3 ⟨rfl, hs⟩
  have HX := hD (HX.out.below hs)
  have HB := hD (bon HB.out hs)
  clear hs
  go_wp2_with fail
  have hSv3 : v3.cell? ⟨w.heap.size, 0, none⟩ = some (.int .i64 x.time) ∧ v3.cell? ⟨w.heap.size, 1, none⟩ = some (.int .i64 x.kind) ∧ v3.cell? ⟨w.heap.size, 3, none⟩ = some (.int .i64 x.slot) ∧ v3.cell? ⟨w.heap.size, 6, none⟩ = some (.string ⟨x.result.toArray⟩) ∧ World.rangeAt v3 w.heap.size 0 (ptC x) := ⟨HX.out.cells 0 _ rfl, HX.out.cells 1 _ rfl, HX.out.cells 3 _ rfl, HX.out.cells 6 _ rfl, HX.out.range⟩
  refine hK.out _ _ hSv3 (fun hHeld => ?_)
  clear hK K
  try simp only [Act.put,qk]
  refine tkq 30 rfl (v := ?_) (.inl ⟨by rfl, ?_⟩) (by assumption) ?_
  rotate_left
  · intro W h; (try dsimp only at h); go_simp; try with_reducible rfl
  try simp only [Act.put,qk]
  refine tkq 31 rfl (v := ?_) (.inl ⟨by rfl, ?_⟩) (by assumption) ?_
  rotate_left
  · intro W h; (try dsimp only at h); go_simp; try with_reducible rfl
  try simp only [Act.put,qk]
  refine wpAnyH_done (by kernel_rfl) ?_ _
  refine NoPanic.normal ?_
  clear hS0 hSv1 hSv2 hSv3
  go_wp2_with fail
  go_ret
  exact ret_bl HF.out HB.out
 | true =>
  have HQ := hD hq
  clear hq
  go_wp2_with fail
  refine wp_region_noPanic ?_
  have HX := hD (HX.out.below (Below.refl _ _).drew)
  have HB := hD (HB.out.drew)
  generalize hv : w1.drew = v0 at HX HB
  have hS0 : v0.cell? ⟨w.heap.size, 0, none⟩ = some (.int .i64 x.time) ∧ v0.cell? ⟨w.heap.size, 1, none⟩ = some (.int .i64 x.kind) ∧ v0.cell? ⟨w.heap.size, 3, none⟩ = some (.int .i64 x.slot) ∧ v0.cell? ⟨w.heap.size, 6, none⟩ = some (.string ⟨x.result.toArray⟩) ∧ World.rangeAt v0 w.heap.size 0 (ptC x) := ⟨HX.out.cells 0 _ rfl, HX.out.cells 1 _ rfl, HX.out.cells 3 _ rfl, HX.out.cells 6 _ rfl, HX.out.range⟩
  refine wp_region_held_drew (S := fun W => W.cell? ⟨w.heap.size, 0, none⟩ = some (.int .i64 x.time) ∧ W.cell? ⟨w.heap.size, 1, none⟩ = some (.int .i64 x.kind) ∧ W.cell? ⟨w.heap.size, 3, none⟩ = some (.int .i64 x.slot) ∧ W.cell? ⟨w.heap.size, 6, none⟩ = some (.string ⟨x.result.toArray⟩) ∧ World.rangeAt W w.heap.size 0 (ptC x)) (by kernel_rfl) (by rw [hv]; exact hS0) (fun hHeld => ?_)
  rw [hv] at hHeld ⊢
  clear hv
  refine tkq 0 rfl (v := ?_) (.inl ⟨by rfl, ?_⟩) (by assumption) ?_
  rotate_left
  · intro W h; (try dsimp only at h); go_simp; try with_reducible rfl
  try simp only [Act.put,qk1,qk2,qk3,qk4,qk6]
  refine tkq 1 rfl (v := ?_) (.inl ⟨by rfl, ?_⟩) (by assumption) ?_
  rotate_left
  · intro W h; (try dsimp only at h); go_simp; try with_reducible rfl
  try simp only [Act.put,qk]
  refine tkr 2 rfl (fun K hK => ?_)
  go_simp
  go_at_call 62
  refine (refWd_any x.kind _).mono ?_
  rintro e v1 ⟨rfl, hs⟩
  have HX := hD (HX.out.below hs)
  have HB := hD (bon HB.out hs)
  clear hs
  go_wp2_with fail
  have hSv1 : v1.cell? ⟨w.heap.size, 0, none⟩ = some (.int .i64 x.time) ∧ v1.cell? ⟨w.heap.size, 1, none⟩ = some (.int .i64 x.kind) ∧ v1.cell? ⟨w.heap.size, 3, none⟩ = some (.int .i64 x.slot) ∧ v1.cell? ⟨w.heap.size, 6, none⟩ = some (.string ⟨x.result.toArray⟩) ∧ World.rangeAt v1 w.heap.size 0 (ptC x) := ⟨HX.out.cells 0 _ rfl, HX.out.cells 1 _ rfl, HX.out.cells 3 _ rfl, HX.out.cells 6 _ rfl, HX.out.range⟩
  refine hK.out _ _ hSv1 (fun hHeld => ?_)
  clear hK K
  try simp only [Act.put,qk]
  refine tkq 3 rfl (v := ?_) (.inl ⟨by rfl, ?_⟩) (by assumption) ?_
  rotate_left
  · intro W h; (try dsimp only at h); go_simp; try with_reducible rfl
  try simp only [Act.put,qk]
  refine tkq 4 rfl (v := ?_) (.inl ⟨by rfl, ?_⟩) (by assumption) ?_
  rotate_left
  · intro W h; (try dsimp only at h); go_simp; try with_reducible rfl
  try simp only [Act.put,qk]
  refine tkq 5 rfl (v := ?_) (.inl ⟨by rfl, ?_⟩) (by assumption) ?_
  rotate_left
  · intro W h; (try dsimp only at h); go_simp; try with_reducible rfl
  try simp only [Act.put,qk]
  refine tkq 6 rfl (v := ?_) (.inl ⟨by rfl, ?_⟩) (by assumption) ?_
  rotate_left
  · intro W h; (try dsimp only at h); go_simp; try with_reducible rfl
  try simp only [Act.put,qk]
  refine tkq 7 rfl (v := ?_) (.inl ⟨by rfl, ?_⟩) (by assumption) ?_
  rotate_left
  · intro W h; (try dsimp only at h); go_simp; try with_reducible rfl
  try simp only [Act.put,qk]
  refine tkq 8 rfl (v := ?_) (.inl ⟨by rfl, ?_⟩) (by assumption) ?_
  rotate_left
  · intro W h; (try dsimp only at h); go_simp; try with_reducible rfl
  try simp only [Act.put,qk]
  refine tkq 9 rfl (v := ?_) (.inl ⟨by rfl, ?_⟩) (by assumption) ?_
  rotate_left
  · intro W h; (try dsimp only at h); go_simp; try with_reducible rfl
  try simp only [Act.put,qk]
  refine tkq 10 rfl (v := ?_) (.inl ⟨by rfl, ?_⟩) (by assumption) ?_
  rotate_left
  · intro W h; (try dsimp only at h); go_simp; try with_reducible rfl
  try simp only [Act.put,qk]
  refine tkq 11 rfl (v := ?_) (.inl ⟨by rfl, ?_⟩) (by assumption) ?_
  rotate_left
  · intro W h; (try dsimp only at h); go_simp; try with_reducible rfl
  try simp only [Act.put,qk]
  refine tkq 12 rfl (v := ?_) (.inl ⟨by rfl, ?_⟩) (by assumption) ?_
  rotate_left
  · intro W h; (try dsimp only at h); go_simp; try with_reducible rfl
  try simp only [Act.put,qk]
  refine tkq 13 rfl (v := ?_) (.inl ⟨by rfl, ?_⟩) (by assumption) ?_
  rotate_left
  · intro W h; (try dsimp only at h); go_simp; try with_reducible rfl
  try simp only [Act.put,qk]
  refine tkq 14 rfl (v := ?_) (.inl ⟨by rfl, ?_⟩) (by assumption) ?_
  rotate_left
  · intro W h; (try dsimp only at h); go_simp; try with_reducible rfl
  try simp only [Act.put,qk]
  refine tkq 15 rfl (v := ?_) (.inl ⟨by rfl, ?_⟩) (by assumption) ?_
  rotate_left
  · intro W h; (try dsimp only at h); go_simp; try with_reducible rfl
  try simp only [Act.put,qk]
  refine tkq 16 rfl (v := ?_) (.inl ⟨by rfl, ?_⟩) (by assumption) ?_
  rotate_left
  · intro W h; (try dsimp only at h); go_simp; try with_reducible rfl
  try simp only [Act.put,qk]
  refine tkq 17 rfl (v := ?_) (.inl ⟨by rfl, ?_⟩) (by assumption) ?_
  rotate_left
  · intro W h; (try dsimp only at h); go_simp; try with_reducible rfl
  try simp only [Act.put,qk]
  refine tkq 18 rfl (v := ?_) (.inl ⟨by rfl, ?_⟩) (by assumption) ?_
  rotate_left
  · intro W h; (try dsimp only at h); go_simp; try with_reducible rfl
  try simp only [Act.put,qk]
  refine tkq 19 rfl (v := ?_) (.inl ⟨by rfl, ?_⟩) (by assumption) ?_
  rotate_left
  · intro W h; (try dsimp only at h); go_simp; try with_reducible rfl
  try simp only [Act.put,qk]
  refine tkq 20 rfl (v := ?_) (.inl ⟨by rfl, ?_⟩) (by assumption) ?_
  rotate_left
  · intro W h; (try dsimp only at h); go_simp; try with_reducible rfl
  try simp only [Act.put,qk]
  refine tkq 21 rfl (v := ?_) (.inl ⟨by rfl, ?_⟩) (by assumption) ?_
  rotate_left
  · intro W h; (try dsimp only at h); go_simp; try with_reducible rfl
  try simp only [Act.put,qk]
  refine tkq 22 rfl (v := ?_) (.inl ⟨by rfl, ?_⟩) (by assumption) ?_
  rotate_left
  · intro W h; (try dsimp only at h); go_simp; try with_reducible rfl
  try simp only [Act.put,qk]
  refine tkq 23 rfl (v := ?_) (.inl ⟨by rfl, ?_⟩) (by assumption) ?_
  rotate_left
  · intro W h; (try dsimp only at h); go_simp; try with_reducible rfl
  try simp only [Act.put,qk]
  refine tkq 24 rfl (v := ?_) (.inl ⟨by rfl, ?_⟩) (by assumption) ?_
  rotate_left
  · intro W h; (try dsimp only at h); go_simp; try with_reducible rfl
  try simp only [Act.put,qk]
  refine tkq 25 rfl (v := ?_) (.inl ⟨by rfl, ?_⟩) (by assumption) ?_
  rotate_left
  · intro W h; (try dsimp only at h); go_simp; try with_reducible rfl
  try simp only [Act.put,qk]
  refine tkq 26 rfl (yieldsIf_load_mid (by rfl) 40 _ (by rfl) _ 0 (by rfl) (ptC x) _ (fun W h => h.2.2.2.2) Tryz.underlying40 rfl (infoPt x)) (by assumption) ?_
  try simp only [Act.put,qk]
  refine tkq 27 rfl (yieldsIf_load_mid (by rfl) 40 _ (by rfl) _ 0 (by rfl) (ptC x) _ (fun W h => h.2.2.2.2) Tryz.underlying40 rfl (infoPt x)) (by assumption) ?_
  try simp only [Act.put,qk]
  refine tkr 28 rfl (fun K hK => ?_)
  go_simp
  go_at_call 63
  refine (refKept_any x _).mono ?_
  rintro e v2 ⟨rfl, hs⟩
  have HX := hD (HX.out.below hs)
  have HB := hD (bon HB.out hs)
  clear hs
  go_wp2_with fail
  have hSv2 : v2.cell? ⟨w.heap.size, 0, none⟩ = some (.int .i64 x.time) ∧ v2.cell? ⟨w.heap.size, 1, none⟩ = some (.int .i64 x.kind) ∧ v2.cell? ⟨w.heap.size, 3, none⟩ = some (.int .i64 x.slot) ∧ v2.cell? ⟨w.heap.size, 6, none⟩ = some (.string ⟨x.result.toArray⟩) ∧ World.rangeAt v2 w.heap.size 0 (ptC x) := ⟨HX.out.cells 0 _ rfl, HX.out.cells 1 _ rfl, HX.out.cells 3 _ rfl, HX.out.cells 6 _ rfl, HX.out.range⟩
  refine hK.out _ _ hSv2 (fun hHeld => ?_)
  clear hK K
  try simp only [Act.put,qk]
  refine tkr 29 rfl (fun K hK => ?_)
  go_simp
  go_at_call 45
  refine ((HQ.out ▸ refEqualPt_any x (keptPt x) _ (Pt.below HOk.out HB.out) (kept_ok (Pt.below HOk.out HB.out)) HS.out (kept_sz HS.out))).mono ?_
  rintro e v3 ⟨rfl, hs⟩
  have HX := hD (HX.out.below hs)
  have HB := hD (bon HB.out hs)
  clear hs
  go_wp2_with fail
  have hSv3 : v3.cell? ⟨w.heap.size, 0, none⟩ = some (.int .i64 x.time) ∧ v3.cell? ⟨w.heap.size, 1, none⟩ = some (.int .i64 x.kind) ∧ v3.cell? ⟨w.heap.size, 3, none⟩ = some (.int .i64 x.slot) ∧ v3.cell? ⟨w.heap.size, 6, none⟩ = some (.string ⟨x.result.toArray⟩) ∧ World.rangeAt v3 w.heap.size 0 (ptC x) := ⟨HX.out.cells 0 _ rfl, HX.out.cells 1 _ rfl, HX.out.cells 3 _ rfl, HX.out.cells 6 _ rfl, HX.out.range⟩
  refine hK.out _ _ hSv3 (fun hHeld => ?_)
  clear hK K
  try simp only [Act.put,qk]
  refine tkq 30 rfl (v := ?_) (.inl ⟨by rfl, ?_⟩) (by assumption) ?_
  rotate_left
  · intro W h; (try dsimp only at h); go_simp; try with_reducible rfl
  try simp only [Act.put,qk]
  refine tkq 31 rfl (v := ?_) (.inl ⟨by rfl, ?_⟩) (by assumption) ?_
  rotate_left
  · intro W h; (try dsimp only at h); go_simp; try with_reducible rfl
  try simp only [Act.put,qk]
  refine wpAnyH_done (by kernel_rfl) ?_ _
  refine NoPanic.normal ?_
  clear hS0 hSv1 hSv2 hSv3 cl t1 t2 t3 t4 d1 d2 d3 d4 e1 e2
  generalize v3 = w3 at HX HB ⊢
  have c1 := HX.out.cells 1 _ rfl
  have c2 := HX.out.cells 2 _ rfl
  have c4 := HX.out.cells 4 _ rfl
  have c5 := HX.out.cells 5 _ rfl
  have cl := HX.out.lt
  go_upto_region 3 with fail
  go_cut [3] from 36 to 43 (fun t wx => t = .bool (numOk x.number) ∧ w3 = wx)
  case first =>
   by_cases n1 : 1 ≤ x.number
   case neg =>
    have n1d : decide (1 ≤ x.number) = false := decide_eq_false n1
    have HNum : Hid (false = numOk x.number) := hD (by simp [numOk, n1])
    clear n1
    go_wp2_with fail
    all_goals
     go_meet
     case rel => exact ⟨congrArg Value.bool HNum.out, rfl⟩
   have n1d : decide (1 ≤ x.number) = true := decide_eq_true n1
   have HNum : Hid (decide (x.number ≤ 1000000) = numOk x.number) := hD (by simp [numOk, n1])
   go_wp2_with fail
   all_goals
    go_meet
    case rel => exact ⟨congrArg Value.bool (by first | exact HNum.out | simpa using HNum.out), rfl⟩
  case rest =>
   obtain ⟨rfl, rfl⟩ := hcut
   by_cases hk : x.kind = 1
   case pos =>
    have HW : Hid (goodPt E x = (isCl x.who && (numOk x.number && opOk x.text))) := hD (by unfold goodPt; rw [HH.out, HQ.out]; simp [whoOk, kindPt, ofCl, hk])
    rw [hk] at c1
    clear hk HH HQ
    go_wp2_with fail
    refine (refClient_any x.who w3).mono ?_
    rintro e wq ⟨rfl, hwq⟩
    replace hwq := hwq.symm
    subst hwq
    cases hp : isCl x.who with
    | false =>
     have HF : Hid (goodPt E x = false) := hD (by rw [HW.out]; simp [hp])
     clear hp
     go_wp2_with fail
     go_ret
     exact ret_bl HF.out HB.out
    | true =>
     cases hn : numOk x.number with
     | false =>
      have HF : Hid (goodPt E x = false) := hD (by rw [HW.out]; simp [hn])
      clear hn
      go_wp2_with fail
      go_ret
      exact ret_bl HF.out HB.out
     | true =>
      go_wp2_with fail
      refine (refOp_any x.text w3 ht).mono ?_
      rintro e w4 ⟨rfl, hs⟩
      have HX := hD (HX.out.below hs)
      have HB := hD (bon HB.out hs)
      clear hs
      cases ho : opOk x.text with
      | false =>
       have HF : Hid (goodPt E x = false) := hD (by rw [HW.out]; simp [ho])
       clear ho
       go_wp2_with fail
       go_ret
       exact ret_bl HF.out HB.out
      | true =>
       have HF : Hid (goodPt E x = true) := hD (by rw [HW.out]; simp [hp, ho, hn])
       clear hp ho hn
       go_wp2_with fail
       go_ret
       exact ret_bl HF.out HB.out
   have nk1 := hk
   clear hk
   by_cases hk : x.kind = 2
   case pos =>
    have HW : Hid (goodPt E x = (isCl x.who && (numOk x.number))) := hD (by unfold goodPt; rw [HH.out, HQ.out]; simp [whoOk, kindPt, ofCl, hk])
    rw [hk] at c1
    clear hk HH HQ
    go_wp2_with fail
    refine (refClient_any x.who w3).mono ?_
    rintro e wq ⟨rfl, hwq⟩
    replace hwq := hwq.symm
    subst hwq
    cases hp : isCl x.who with
    | false =>
     have HF : Hid (goodPt E x = false) := hD (by rw [HW.out]; simp [hp])
     clear hp
     go_wp2_with fail
     go_ret
     exact ret_bl HF.out HB.out
    | true =>
     cases hn : numOk x.number with
     | false =>
      have HF : Hid (goodPt E x = false) := hD (by rw [HW.out]; simp [hn])
      clear hn
      go_wp2_with fail
      go_ret
      exact ret_bl HF.out HB.out
     | true =>
      have HF : Hid (goodPt E x = true) := hD (by rw [HW.out]; simp [hp, hn])
      clear hp hn
      go_wp2_with fail
      go_ret
      exact ret_bl HF.out HB.out
   have nk2 := hk
   clear hk
   by_cases hk : x.kind = 3
   case pos =>
    have HW : Hid (goodPt E x = (isCl x.who && (E x.text))) := hD (by unfold goodPt; rw [HH.out, HQ.out]; simp [whoOk, kindPt, ofCl, hk])
    have HE := hD (HE.out (by first | exact .inl hk | exact .inr hk))
    rw [hk] at c1
    clear hk HH HQ
    go_wp2_with fail
    refine (refClient_any x.who w3).mono ?_
    rintro e wq ⟨rfl, hwq⟩
    replace hwq := hwq.symm
    subst hwq
    cases hp : isCl x.who with
    | false =>
     have HF : Hid (goodPt E x = false) := hD (by rw [HW.out]; simp [hp])
     clear hp
     go_wp2_with fail
     go_ret
     exact ret_bl HF.out HB.out
    | true =>
     go_wp2_with fail
     refine (HE.out w3 HB.out).mono ?_
     rintro e w4 ⟨rfl, hs⟩
     have HX := hD (HX.out.below hs)
     have HB := hD (bon HB.out hs)
     clear hs
     cases ho : E x.text with
     | false =>
      have HF : Hid (goodPt E x = false) := hD (by rw [HW.out]; simp [ho])
      clear ho
      go_wp2_with fail
      go_ret
      exact ret_bl HF.out HB.out
     | true =>
      have HF : Hid (goodPt E x = true) := hD (by rw [HW.out]; simp [hp, ho])
      clear hp ho
      go_wp2_with fail
      go_ret
      exact ret_bl HF.out HB.out
   have nk3 := hk
   clear hk
   by_cases hk : x.kind = 4
   case pos =>
    have HW : Hid (goodPt E x = (isSv x.who && (E x.text))) := hD (by unfold goodPt; rw [HH.out, HQ.out]; simp [whoOk, kindPt, ofCl, hk])
    have HE := hD (HE.out (by first | exact .inl hk | exact .inr hk))
    rw [hk] at c1
    clear hk HH HQ
    go_wp2_with fail
    refine (refServer_any x.who w3).mono ?_
    rintro e wq ⟨rfl, hwq⟩
    replace hwq := hwq.symm
    subst hwq
    cases hp : isSv x.who with
    | false =>
     have HF : Hid (goodPt E x = false) := hD (by rw [HW.out]; simp [hp])
     clear hp
     go_wp2_with fail
     go_ret
     exact ret_bl HF.out HB.out
    | true =>
     go_wp2_with fail
     refine (HE.out w3 HB.out).mono ?_
     rintro e w4 ⟨rfl, hs⟩
     have HX := hD (HX.out.below hs)
     have HB := hD (bon HB.out hs)
     clear hs
     cases ho : E x.text with
     | false =>
      have HF : Hid (goodPt E x = false) := hD (by rw [HW.out]; simp [ho])
      clear ho
      go_wp2_with fail
      go_ret
      exact ret_bl HF.out HB.out
     | true =>
      have HF : Hid (goodPt E x = true) := hD (by rw [HW.out]; simp [hp, ho])
      clear hp ho
      go_wp2_with fail
      go_ret
      exact ret_bl HF.out HB.out
   have nk4 := hk
   clear hk
   by_cases hk : x.kind = 5
   case pos =>
    have HW : Hid (goodPt E x = (isSv x.who && (isCl x.number && opOk x.text))) := hD (by unfold goodPt; rw [HH.out, HQ.out]; simp [whoOk, kindPt, ofCl, hk])
    rw [hk] at c1
    clear hk HH HQ
    go_wp2_with fail
    refine (refServer_any x.who w3).mono ?_
    rintro e wq ⟨rfl, hwq⟩
    replace hwq := hwq.symm
    subst hwq
    cases hp : isSv x.who with
    | false =>
     have HF : Hid (goodPt E x = false) := hD (by rw [HW.out]; simp [hp])
     clear hp
     go_wp2_with fail
     go_ret
     exact ret_bl HF.out HB.out
    | true =>
     go_wp2_with fail
     refine (refClient_any x.number w3).mono ?_
     rintro e wq ⟨rfl, hwq⟩
     replace hwq := hwq.symm
     subst hwq
     cases hn : isCl x.number with
     | false =>
      have HF : Hid (goodPt E x = false) := hD (by rw [HW.out]; simp [hn])
      clear hn
      go_wp2_with fail
      go_ret
      exact ret_bl HF.out HB.out
     | true =>
      go_wp2_with fail
      refine (refOp_any x.text w3 ht).mono ?_
      rintro e w4 ⟨rfl, hs⟩
      have HX := hD (HX.out.below hs)
      have HB := hD (bon HB.out hs)
      clear hs
      cases ho : opOk x.text with
      | false =>
       have HF : Hid (goodPt E x = false) := hD (by rw [HW.out]; simp [ho])
       clear ho
       go_wp2_with fail
       go_ret
       exact ret_bl HF.out HB.out
      | true =>
       have HF : Hid (goodPt E x = true) := hD (by rw [HW.out]; simp [hp, hn, ho])
       clear hp hn ho
       go_wp2_with fail
       go_ret
       exact ret_bl HF.out HB.out
   have nk5 := hk
   clear hk
   by_cases hk : x.kind = 6
   case pos =>
    have HW : Hid (goodPt E x = (isSv x.who && (decide (vMs x.msg = 0) && decide (x.msg.src = x.who)))) := hD (by unfold goodPt; rw [HH.out, HQ.out]; simp [whoOk, kindPt, ofCl, hk])
    rw [hk] at c1
    clear hk HH HQ
    go_wp2_with fail
    refine (refServer_any x.who w3).mono ?_
    rintro e wq ⟨rfl, hwq⟩
    replace hwq := hwq.symm
    subst hwq
    cases hp : isSv x.who with
    | false =>
     have HF : Hid (goodPt E x = false) := hD (by rw [HW.out]; simp [hp])
     clear hp
     go_wp2_with fail
     go_ret
     exact ret_bl HF.out HB.out
    | true =>
     have c8 := HX.out.cells 8 _ rfl
     go_wp2_with (refine wpList_load_wanted (by rfl) 38 _ rfl w.heap.size 7 rfl (msC x.msg) _ HX.out.msg Tryz.underlying38 rfl (infoMsn x.msg) ?_)
     clear c1 c2 c4 c5 c8 cl
     refine (refValid_any x.msg w3 (Ms.below HOk.out.2 HB.out) (MsFew.of_sz (by have := HS.out; omega))).mono ?_
     rintro e w4 ⟨rfl, hs⟩
     have HX := hD (HX.out.below hs)
     have HB := hD (bon HB.out hs)
     clear hs
     have c2 := HX.out.cells 2 _ rfl
     have c8 := HX.out.cells 8 _ rfl
     have cl := HX.out.lt
     by_cases hv : vMs x.msg = 0
     case neg =>
      have v1 : (vMs x.msg == 0) = false := by simpa using hv
      have HF : Hid (goodPt E x = false) := hD (by rw [HW.out]; simp [hv])
      clear hv
      go_wp2_with fail
      go_ret
      exact ret_bl HF.out HB.out
     have v1 : (vMs x.msg == 0) = true := by simpa using hv
     by_cases hs : x.msg.src = x.who
     case neg =>
      have s1 : (x.msg.src == x.who) = false := by simpa using hs
      have HF : Hid (goodPt E x = false) := hD (by rw [HW.out]; simp [hs])
      clear hs
      go_wp2_with fail
      go_ret
      exact ret_bl HF.out HB.out
     have s1 : (x.msg.src == x.who) = true := by simpa using hs
     have HF : Hid (goodPt E x = true) := hD (by rw [HW.out]; simp [hp, hv, hs])
     clear hp hv hs
     go_wp2_with fail
     go_ret
     exact ret_bl HF.out HB.out
   have nk6 := hk
   clear hk
   by_cases hk : x.kind = 7
   case pos =>
    have HW : Hid (goodPt E x = (isSv x.who && (true))) := hD (by unfold goodPt; rw [HH.out, HQ.out]; simp [whoOk, kindPt, ofCl, hk])
    rw [hk] at c1
    clear hk HH HQ
    go_wp2_with fail
    refine (refServer_any x.who w3).mono ?_
    rintro e wq ⟨rfl, hwq⟩
    replace hwq := hwq.symm
    subst hwq
    cases hp : isSv x.who with
    | false =>
     have HF : Hid (goodPt E x = false) := hD (by rw [HW.out]; simp [hp])
     clear hp
     go_wp2_with fail
     go_ret
     exact ret_bl HF.out HB.out
    | true =>
     have HF : Hid (goodPt E x = true) := hD (by rw [HW.out]; simp [hp])
     clear hp
     go_wp2_with fail
     go_ret
     exact ret_bl HF.out HB.out
   have nk7 := hk
   clear hk
   by_cases hk : x.kind = 8
   case pos =>
    have HW : Hid (goodPt E x = (isSv x.who && (true))) := hD (by unfold goodPt; rw [HH.out, HQ.out]; simp [whoOk, kindPt, ofCl, hk])
    rw [hk] at c1
    clear hk HH HQ
    go_wp2_with fail
    refine (refServer_any x.who w3).mono ?_
    rintro e wq ⟨rfl, hwq⟩
    replace hwq := hwq.symm
    subst hwq
    cases hp : isSv x.who with
    | false =>
     have HF : Hid (goodPt E x = false) := hD (by rw [HW.out]; simp [hp])
     clear hp
     go_wp2_with fail
     go_ret
     exact ret_bl HF.out HB.out
    | true =>
     have HF : Hid (goodPt E x = true) := hD (by rw [HW.out]; simp [hp])
     clear hp
     go_wp2_with fail
     go_ret
     exact ret_bl HF.out HB.out
   have nk8 := hk
   clear hk
   exfalso
   have h := HH.out
   unfold headOk at h
   simp only [Bool.and_eq_true, decide_eq_true_eq] at h
   omega
end Go.Proofs.YtepbbaifpckcpaaGreatDoor
