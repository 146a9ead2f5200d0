/- The contract of trace.valid. -/
import Derived.Test.YtepbbaifpckcpaaGreatDoorVPl
import Derived.Test.YtepbbaifpckcpaaGreatDoorVTrJ
import Derived.Test.YtepbbaifpckcpaaGreatDoorVTrF
import Derived.Test.YtepbbaifpckcpaaGreatDoorVStE
namespace Go.Proofs.YtepbbaifpckcpaaGreatDoor
open Go.RowKit
set_option maxRecDepth 100000 in
theorem ofClient_any (k : Int) (w : World) : Calls Tryz.prog 58 #[.int .i64 k] w fun e w' => e = .returned (.bool (ofCl k)) ∧ w' = w := by
 by_cases h1 : k = 1
 · subst h1
   go_enter Tryz.func58, Tryz.ntmps58
   go_wp2_with fail
   go_ret
   exact ⟨rfl, rfl⟩
 · by_cases h2 : k = 2
   · subst h2
     go_enter Tryz.func58, Tryz.ntmps58
     go_wp2_with fail
     go_ret
     exact ⟨rfl, rfl⟩
   · have q1 : (k == 1) = false := by simpa using h1
     have q2 : (k == 2) = false := by simpa using h2
     by_cases h3 : k = 3
     · have q3 : (k == 3) = true := by simpa using h3
       have HF : Hid (ofCl k = true) := hD (by simp [ofCl, h3])
       clear h1 h2 h3
       go_enter Tryz.func58, Tryz.ntmps58
       go_wp2_with fail
       go_ret
       exact ⟨ret_bool HF.out.symm, rfl⟩
     · have q3 : (k == 3) = false := by simpa using h3
       have HF : Hid (ofCl k = false) := hD (by simp [ofCl, h1, h2, h3])
       clear h1 h2 h3
       go_enter Tryz.func58, Tryz.ntmps58
       go_wp2_with fail
       go_ret
       exact ⟨ret_bool HF.out.symm, rfl⟩
set_option maxRecDepth 100000 in
set_option maxHeartbeats 1000000 in
theorem isOp_any (s : List UInt8) (w : World) (he : Env w) (hs : s.length ≤ 300000) : Calls Tryz.prog 59 #[.string ⟨s.toArray⟩] w (RetBool (opOk s) w) := by
 have HP := hD (parse_any ⟨s.toArray⟩ w he (by simpa [ByteArray.size] using hs))
 go_enter Tryz.func59, Tryz.ntmps59
 go_wp2_with fail
 refine HP.out.mono ?_
 rintro e w2 ⟨⟨a, b, c, d, rfl⟩, b2⟩
 have HB := hD b2
 clear b2
 cases hq : opOk s with
 | true =>
  go_wp2_with fail
  go_ret
  exact ret_bl hq (bon HB.out (below_new _ _))
 | false =>
  go_wp2_with fail
  go_ret
  exact ret_bl hq (bon HB.out (below_new _ _))
theorem ms0_ok (w : World) : ms0.ok w := by
 refine ⟨by simp [I64, ms0], by simp [Sg.ok, I64, ms0, sg0], ⟨⟨rfl, fun h => by simp [ms0, Sl.nil] at h⟩, fun x hx => by simp [ms0, Sl.nil] at hx⟩, ⟨⟨rfl, fun h => by simp [ms0, Sl.nil] at h⟩, fun x hx => by simp [ms0, Sl.nil] at hx⟩, ⟨by simp [I64, ms0], ⟨rfl, fun h => by simp [ms0, Sl.nil] at h⟩, ⟨⟨rfl, fun h => by simp [ms0, Sl.nil] at h⟩, fun x hx => by simp [ms0, Sl.nil] at hx⟩, ⟨rfl, fun h => by simp [ms0, Sl.nil] at h⟩, fun x hx => by simp [ms0, Sl.nil] at hx⟩, ⟨rfl, fun h => by simp [ms0, Sl.nil] at h⟩⟩
theorem ms0_sz : ms0.sz ≤ 16777216 := by decide
theorem i64_0 : I64 0 := by simp [I64]
theorem kept_ok {x : Pt} {w : World} (h : x.ok w) : (keptPt x).ok w := by
 obtain ⟨⟨a, b, c, d, e⟩, hm⟩ := h
 unfold keptPt
 split
 · exact ⟨⟨a, b, c, i64_0, e⟩, ms0_ok w⟩
 · split
   · exact ⟨⟨a, b, c, d, e⟩, ms0_ok w⟩
   · split
     · exact ⟨⟨a, b, c, d, i64_0⟩, ms0_ok w⟩
     · split
       · exact ⟨⟨a, b, c, i64_0, e⟩, ms0_ok w⟩
       · split
         · exact ⟨⟨a, b, c, i64_0, i64_0⟩, hm⟩
         · exact ⟨⟨a, b, c, i64_0, i64_0⟩, ms0_ok w⟩
theorem kept_sz {x : Pt} (h : x.msg.sz ≤ 16777216) : (keptPt x).msg.sz ≤ 16777216 := by
 unfold keptPt
 split
 · exact ms0_sz
 · split
   · exact ms0_sz
   · split
     · exact ms0_sz
     · split
       · exact ms0_sz
       · split
         · exact h
         · exact ms0_sz
set_option maxRecDepth 100000 in
set_option maxHeartbeats 4000000 in
theorem trValidPt_any (x : Pt) (w : World) (E : List UInt8 → Bool) (hE : x.kind = 3 ∨ x.kind = 4 → ∀ W, Below w.heap.size w W → Calls Tryz.prog 60 #[.string ⟨x.text.toArray⟩] W (RetBool (E x.text) W)) (he : Env w) (hok : x.ok w) (hs : x.msg.sz ≤ 16777216) (ht : x.text.length ≤ 300000) : Calls Tryz.prog 36 #[.agg (ptC x).toArray] w (RetBool (goodPt E x) w) := by
 have HE := hD hE
 have HEnv := hD he
 have HOk := hD hok
 have HS := hD hs
 have HX := hD (Vr.new w (ptC x) 40)
 have HB := hD (below_new w (.cells (ptC x).toArray 40))
 obtain ⟨bw, hlook⟩ := words_look he x.kind hok.1.2.1
 obtain ⟨cg, lk, -⟩ := hlook _ HB.out
 clear hE he hok hs hlook
 go_enter Tryz.func36, Tryz.ntmps36
 go_upto_region 1 with fail
 change Code.wp _ _ _ _ (w.alloc (.cells (ptC x).toArray 40))
 generalize w.alloc (.cells (ptC x).toArray 40) = w1 at HX HB cg lk ⊢
 have c1 := HX.out.cells 1 _ rfl
 have cl := HX.out.lt
 by_cases h0 : isKind x.kind = true
 case neg =>
  have h0' : isKind x.kind = false := by simpa using h0
  have HF : Hid (goodPt E x = false) := hD (by unfold goodPt headOk; unfold isKind at h0'; rw [h0']; simp)
  rw [h0'] at lk
  go_wp2_with fail
  clear c1 cg lk
  refine wp_region_noPanic ?_
  have HX := hD (HX.out.below (Below.refl _ _).drew)
  have HB := hD (HB.out.drew)
  generalize hv : w1.drew = v0 at HX HB
  have hS0 : World.cell? v0 ⟨w.heap.size, 0, none⟩ = some (.int .i64 x.time) ∧ World.cell? v0 ⟨w.heap.size, 1, none⟩ = some (.int .i64 x.kind) ∧ World.cell? v0 ⟨w.heap.size, 3, none⟩ = some (.int .i64 x.slot) ∧ World.cell? v0 ⟨w.heap.size, 6, none⟩ = some (.string ⟨x.result.toArray⟩) ∧ World.rangeAt v0 w.heap.size 0 (ptC x) := ⟨HX.out.cells 0 _ rfl, HX.out.cells 1 _ rfl, HX.out.cells 3 _ rfl, HX.out.cells 6 _ rfl, HX.out.range⟩
  refine wp_region_held_drew (S := fun W => World.cell? W ⟨w.heap.size, 0, none⟩ = some (.int .i64 x.time) ∧ World.cell? W ⟨w.heap.size, 1, none⟩ = some (.int .i64 x.kind) ∧ World.cell? W ⟨w.heap.size, 3, none⟩ = some (.int .i64 x.slot) ∧ World.cell? W ⟨w.heap.size, 6, none⟩ = some (.string ⟨x.result.toArray⟩) ∧ World.rangeAt W w.heap.size 0 (ptC x)) (by kernel_rfl) (by rw [hv]; exact hS0) (fun hHeld => ?_)
  rw [hv] at hHeld ⊢
  clear hv
  refine tkq 0 rfl (v := ?_) (.inl ⟨by rfl, ?_⟩) (by assumption) ?_
  rotate_left
  · intro W h; (try dsimp only at h); go_simp; try with_reducible rfl
  try simp only [Act.put,qk1,qk2,qk3,qk4,qk6]
  refine tkq 1 rfl (v := ?_) (.inl ⟨by rfl, ?_⟩) (by assumption) ?_
  rotate_left
  · intro W h; (try dsimp only at h); go_simp; try with_reducible rfl
  try simp only [Act.put,qk1,qk2,qk3,qk4,qk5,qk6]
  refine tkq 2 rfl (v := ?_) (.inl ⟨by rfl, ?_⟩) (by assumption) ?_
  rotate_left
  · intro W h; (try dsimp only at h); go_simp; try with_reducible rfl
  try simp only [Act.put,qk1,qk2,qk3,qk4,qk5,qk6]
  refine tkq 3 rfl (v := undef) (.inr ⟨by rfl, rfl⟩) (by assumption) ?_
  try simp only [Act.put,qk1,qk2,qk3,qk4,qk5,qk6]
  refine tkq 4 rfl (v := undef) (.inr ⟨by rfl, rfl⟩) (by assumption) ?_
  try simp only [Act.put,qk1,qk2,qk3,qk4,qk5,qk6]
  refine tkq 5 rfl (v := undef) (.inr ⟨by rfl, rfl⟩) (by assumption) ?_
  try simp only [Act.put,qk1,qk2,qk3,qk4,qk5,qk6]
  refine tkq 6 rfl (v := ?_) (.inl ⟨by rfl, ?_⟩) (by assumption) ?_
  rotate_left
  · intro W h; (try dsimp only at h); go_simp; try with_reducible rfl
  try simp only [Act.put,qk1,qk2,qk3,qk4,qk5,qk6]
  refine tkq 7 rfl (v := ?_) (.inl ⟨by rfl, ?_⟩) (by assumption) ?_
  rotate_left
  · intro W h; (try dsimp only at h); go_simp; try with_reducible rfl
  try simp only [Act.put,qk1,qk2,qk3,qk4,qk5,qk6]
  refine tkq 8 rfl (v := undef) (.inr ⟨by rfl, rfl⟩) (by assumption) ?_
  try simp only [Act.put,qk1,qk2,qk3,qk4,qk5,qk6]
  refine tkq 9 rfl (v := undef) (.inr ⟨by rfl, rfl⟩) (by assumption) ?_
  try simp only [Act.put,qk1,qk2,qk3,qk4,qk5,qk6]
  refine tkq 10 rfl (v := undef) (.inr ⟨by rfl, rfl⟩) (by assumption) ?_
  try simp only [Act.put,qk1,qk2,qk3,qk4,qk5,qk6]
  refine tkq 11 rfl (v := ?_) (.inl ⟨by rfl, ?_⟩) (by assumption) ?_
  rotate_left
  · intro W h; (try dsimp only at h); go_simp; try with_reducible rfl
  try simp only [Act.put,qk1,qk2,qk3,qk4,qk5,qk6]
  refine tkq 12 rfl (v := ?_) (.inl ⟨by rfl, ?_⟩) (by assumption) ?_
  rotate_left
  · intro W h; (try dsimp only at h); go_simp; try with_reducible rfl
  try simp only [Act.put,qk1,qk2,qk3,qk4,qk5,qk6]
  refine tkq 13 rfl (v := undef) (.inr ⟨by rfl, rfl⟩) (by assumption) ?_
  try simp only [Act.put,qk1,qk2,qk3,qk4,qk5,qk6]
  refine tkq 14 rfl (v := undef) (.inr ⟨by rfl, rfl⟩) (by assumption) ?_
  try simp only [Act.put,qk1,qk2,qk3,qk4,qk5,qk6]
  refine tkq 15 rfl (v := undef) (.inr ⟨by rfl, rfl⟩) (by assumption) ?_
  try simp only [Act.put,qk1,qk2,qk3,qk4,qk5,qk6]
  refine tkq 16 rfl (v := ?_) (.inl ⟨by rfl, ?_⟩) (by assumption) ?_
  rotate_left
  · intro W h; (try dsimp only at h); go_simp; try with_reducible rfl
  try simp only [Act.put,qk1,qk2,qk3,qk4,qk5,qk6]
  refine tkq 17 rfl (v := ?_) (.inl ⟨by rfl, ?_⟩) (by assumption) ?_
  rotate_left
  · intro W h; (try dsimp only at h); go_simp; try with_reducible rfl
  try simp only [Act.put,qk1,qk2,qk3,qk4,qk5,qk6]
  refine tkq 18 rfl (v := undef) (.inr ⟨by rfl, rfl⟩) (by assumption) ?_
  try simp only [Act.put,qk1,qk2,qk3,qk4,qk5,qk6]
  refine tkq 19 rfl (v := undef) (.inr ⟨by rfl, rfl⟩) (by assumption) ?_
  try simp only [Act.put,qk1,qk2,qk3,qk4,qk5,qk6]
  refine tkq 20 rfl (v := undef) (.inr ⟨by rfl, rfl⟩) (by assumption) ?_
  try simp only [Act.put,qk1,qk2,qk3,qk4,qk5,qk6]
  refine tkq 21 rfl (v := undef) (.inr ⟨by rfl, rfl⟩) (by assumption) ?_
  try simp only [Act.put,qk1,qk2,qk3,qk4,qk5,qk6]
  refine tkq 22 rfl (v := ?_) (.inl ⟨by rfl, ?_⟩) (by assumption) ?_
  rotate_left
  · intro W h; (try dsimp only at h); go_simp; try with_reducible rfl
  try simp only [Act.put,qk1,qk2,qk3,qk4,qk5,qk6]
  refine tkq 23 rfl (v := ?_) (.inl ⟨by rfl, ?_⟩) (by assumption) ?_
  rotate_left
  · intro W h; (try dsimp only at h); go_simp; try with_reducible rfl
  try simp only [Act.put,qk1,qk2,qk3,qk4,qk5,qk6]
  refine tkq 24 rfl (v := undef) (.inr ⟨by rfl, rfl⟩) (by assumption) ?_
  try simp only [Act.put,qk1,qk2,qk3,qk4,qk5,qk6]
  refine tkq 25 rfl (v := undef) (.inr ⟨by rfl, rfl⟩) (by assumption) ?_
  try simp only [Act.put,qk1,qk2,qk3,qk4,qk5,qk6]
  refine tkq 26 rfl (v := undef) (.inr ⟨by rfl, rfl⟩) (by assumption) ?_
  try simp only [Act.put,qk1,qk2,qk3,qk4,qk5,qk6]
  refine tkq 27 rfl (v := undef) (.inr ⟨by rfl, rfl⟩) (by assumption) ?_
  try simp only [Act.put,qk1,qk2,qk3,qk4,qk5,qk6]
  refine tkq 28 rfl (v := undef) (.inr ⟨by rfl, rfl⟩) (by assumption) ?_
  try simp only [Act.put,qk1,qk2,qk3,qk4,qk5,qk6]
  refine tkq 29 rfl (v := ?_) (.inl ⟨by rfl, ?_⟩) (by assumption) ?_
  rotate_left
  · intro W h; (try dsimp only at h); go_simp; try with_reducible rfl
  try simp only [Act.put,qk1,qk2,qk3,qk4,qk5,qk6]
  refine wpAnyH_done (by kernel_rfl) ?_ _
  refine NoPanic.normal ?_
  clear hS0
  go_wp2_with fail
  go_ret
  exact ret_bl HF.out HB.out
 rw [h0] at lk
 by_cases h1 : 0 ≤ x.time
 case neg =>
  have HF : Hid (goodPt E x = false) := hD (by unfold goodPt headOk; rw [decide_eq_false h1]; simp)
  have t1 : x.time < 0 := by omega
  have d1 : decide (x.time < 0) = true := decide_eq_true t1
  clear h0 h1
  go_wp2_with fail
  clear c1 cg lk
  refine wp_region_noPanic ?_
  have HX := hD (HX.out.below (Below.refl _ _).drew)
  have HB := hD (HB.out.drew)
  generalize hv : w1.drew = v0 at HX HB
  have hS0 : World.cell? v0 ⟨w.heap.size, 0, none⟩ = some (.int .i64 x.time) ∧ World.cell? v0 ⟨w.heap.size, 1, none⟩ = some (.int .i64 x.kind) ∧ World.cell? v0 ⟨w.heap.size, 3, none⟩ = some (.int .i64 x.slot) ∧ World.cell? v0 ⟨w.heap.size, 6, none⟩ = some (.string ⟨x.result.toArray⟩) ∧ World.rangeAt v0 w.heap.size 0 (ptC x) := ⟨HX.out.cells 0 _ rfl, HX.out.cells 1 _ rfl, HX.out.cells 3 _ rfl, HX.out.cells 6 _ rfl, HX.out.range⟩
  refine wp_region_held_drew (S := fun W => World.cell? W ⟨w.heap.size, 0, none⟩ = some (.int .i64 x.time) ∧ World.cell? W ⟨w.heap.size, 1, none⟩ = some (.int .i64 x.kind) ∧ World.cell? W ⟨w.heap.size, 3, none⟩ = some (.int .i64 x.slot) ∧ World.cell? W ⟨w.heap.size, 6, none⟩ = some (.string ⟨x.result.toArray⟩) ∧ World.rangeAt W w.heap.size 0 (ptC x)) (by kernel_rfl) (by rw [hv]; exact hS0) (fun hHeld => ?_)
  rw [hv] at hHeld ⊢
  clear hv
  refine tkq 0 rfl (v := ?_) (.inl ⟨by rfl, ?_⟩) (by assumption) ?_
  rotate_left
  · intro W h; (try dsimp only at h); go_simp; try with_reducible rfl
  try simp only [Act.put,qk1,qk2,qk3,qk4,qk6]
  refine tkq 1 rfl (v := ?_) (.inl ⟨by rfl, ?_⟩) (by assumption) ?_
  rotate_left
  · intro W h; (try dsimp only at h); go_simp; try with_reducible rfl
  try simp only [Act.put,qk1,qk2,qk3,qk4,qk5,qk6]
  refine tkq 2 rfl (v := ?_) (.inl ⟨by rfl, ?_⟩) (by assumption) ?_
  rotate_left
  · intro W h; (try dsimp only at h); go_simp; try with_reducible rfl
  try simp only [Act.put,qk1,qk2,qk3,qk4,qk5,qk6]
  refine tkq 3 rfl (v := ?_) (.inl ⟨by rfl, ?_⟩) (by assumption) ?_
  rotate_left
  · intro W h; (try dsimp only at h); go_simp; try with_reducible rfl
  try simp only [Act.put,qk1,qk2,qk3,qk4,qk5,qk6]
  refine tkq 4 rfl (v := ?_) (.inl ⟨by rfl, ?_⟩) (by assumption) ?_
  rotate_left
  · intro W h; (try dsimp only at h); go_simp; try with_reducible rfl
  try simp only [Act.put,qk1,qk2,qk3,qk4,qk5,qk6]
  refine tkq 5 rfl (v := ?_) (.inl ⟨by rfl, ?_⟩) (by assumption) ?_
  rotate_left
  · intro W h; (try dsimp only at h); go_simp; try with_reducible rfl
  try simp only [Act.put,qk1,qk2,qk3,qk4,qk5,qk6]
  refine tkq 6 rfl (v := ?_) (.inl ⟨by rfl, ?_⟩) (by assumption) ?_
  rotate_left
  · intro W h; (try dsimp only at h); go_simp; try with_reducible rfl
  try simp only [Act.put,qk1,qk2,qk3,qk4,qk5,qk6]
  refine tkq 7 rfl (v := ?_) (.inl ⟨by rfl, ?_⟩) (by assumption) ?_
  rotate_left
  · intro W h; (try dsimp only at h); go_simp; try with_reducible rfl
  try simp only [Act.put,qk1,qk2,qk3,qk4,qk5,qk6]
  refine tkq 8 rfl (v := undef) (.inr ⟨by rfl, rfl⟩) (by assumption) ?_
  try simp only [Act.put,qk1,qk2,qk3,qk4,qk5,qk6]
  refine tkq 9 rfl (v := undef) (.inr ⟨by rfl, rfl⟩) (by assumption) ?_
  try simp only [Act.put,qk1,qk2,qk3,qk4,qk5,qk6]
  refine tkq 10 rfl (v := undef) (.inr ⟨by rfl, rfl⟩) (by assumption) ?_
  try simp only [Act.put,qk1,qk2,qk3,qk4,qk5,qk6]
  refine tkq 11 rfl (v := ?_) (.inl ⟨by rfl, ?_⟩) (by assumption) ?_
  rotate_left
  · intro W h; (try dsimp only at h); go_simp; try with_reducible rfl
  try simp only [Act.put,qk1,qk2,qk3,qk4,qk5,qk6]
  refine tkq 12 rfl (v := ?_) (.inl ⟨by rfl, ?_⟩) (by assumption) ?_
  rotate_left
  · intro W h; (try dsimp only at h); go_simp; try with_reducible rfl
  try simp only [Act.put,qk1,qk2,qk3,qk4,qk5,qk6]
  refine tkq 13 rfl (v := undef) (.inr ⟨by rfl, rfl⟩) (by assumption) ?_
  try simp only [Act.put,qk1,qk2,qk3,qk4,qk5,qk6]
  refine tkq 14 rfl (v := undef) (.inr ⟨by rfl, rfl⟩) (by assumption) ?_
  try simp only [Act.put,qk1,qk2,qk3,qk4,qk5,qk6]
  refine tkq 15 rfl (v := undef) (.inr ⟨by rfl, rfl⟩) (by assumption) ?_
  try simp only [Act.put,qk1,qk2,qk3,qk4,qk5,qk6]
  refine tkq 16 rfl (v := ?_) (.inl ⟨by rfl, ?_⟩) (by assumption) ?_
  rotate_left
  · intro W h; (try dsimp only at h); go_simp; try with_reducible rfl
  try simp only [Act.put,qk1,qk2,qk3,qk4,qk5,qk6]
  refine tkq 17 rfl (v := ?_) (.inl ⟨by rfl, ?_⟩) (by assumption) ?_
  rotate_left
  · intro W h; (try dsimp only at h); go_simp; try with_reducible rfl
  try simp only [Act.put,qk1,qk2,qk3,qk4,qk5,qk6]
  refine tkq 18 rfl (v := undef) (.inr ⟨by rfl, rfl⟩) (by assumption) ?_
  try simp only [Act.put,qk1,qk2,qk3,qk4,qk5,qk6]
  refine tkq 19 rfl (v := undef) (.inr ⟨by rfl, rfl⟩) (by assumption) ?_
  try simp only [Act.put,qk1,qk2,qk3,qk4,qk5,qk6]
  refine tkq 20 rfl (v := undef) (.inr ⟨by rfl, rfl⟩) (by assumption) ?_
  try simp only [Act.put,qk1,qk2,qk3,qk4,qk5,qk6]
  refine tkq 21 rfl (v := undef) (.inr ⟨by rfl, rfl⟩) (by assumption) ?_
  try simp only [Act.put,qk1,qk2,qk3,qk4,qk5,qk6]
  refine tkq 22 rfl (v := ?_) (.inl ⟨by rfl, ?_⟩) (by assumption) ?_
  rotate_left
  · intro W h; (try dsimp only at h); go_simp; try with_reducible rfl
  try simp only [Act.put,qk1,qk2,qk3,qk4,qk5,qk6]
  refine tkq 23 rfl (v := ?_) (.inl ⟨by rfl, ?_⟩) (by assumption) ?_
  rotate_left
  · intro W h; (try dsimp only at h); go_simp; try with_reducible rfl
  try simp only [Act.put,qk1,qk2,qk3,qk4,qk5,qk6]
  refine tkq 24 rfl (v := undef) (.inr ⟨by rfl, rfl⟩) (by assumption) ?_
  try simp only [Act.put,qk1,qk2,qk3,qk4,qk5,qk6]
  refine tkq 25 rfl (v := undef) (.inr ⟨by rfl, rfl⟩) (by assumption) ?_
  try simp only [Act.put,qk1,qk2,qk3,qk4,qk5,qk6]
  refine tkq 26 rfl (v := undef) (.inr ⟨by rfl, rfl⟩) (by assumption) ?_
  try simp only [Act.put,qk1,qk2,qk3,qk4,qk5,qk6]
  refine tkq 27 rfl (v := undef) (.inr ⟨by rfl, rfl⟩) (by assumption) ?_
  try simp only [Act.put,qk1,qk2,qk3,qk4,qk5,qk6]
  refine tkq 28 rfl (v := undef) (.inr ⟨by rfl, rfl⟩) (by assumption) ?_
  try simp only [Act.put,qk1,qk2,qk3,qk4,qk5,qk6]
  refine tkq 29 rfl (v := ?_) (.inl ⟨by rfl, ?_⟩) (by assumption) ?_
  rotate_left
  · intro W h; (try dsimp only at h); go_simp; try with_reducible rfl
  try simp only [Act.put,qk1,qk2,qk3,qk4,qk5,qk6]
  refine wpAnyH_done (by kernel_rfl) ?_ _
  refine NoPanic.normal ?_
  clear hS0
  go_wp2_with fail
  go_ret
  exact ret_bl HF.out HB.out
 have t1 : ¬ (x.time < 0) := by omega
 have d1 : decide (x.time < 0) = false := decide_eq_false t1
 by_cases h2 : 0 ≤ x.slot
 case neg =>
  have HF : Hid (goodPt E x = false) := hD (by unfold goodPt headOk; rw [decide_eq_false h2]; simp)
  have t2 : x.slot < 0 := by omega
  have d2 : decide (x.slot < 0) = true := decide_eq_true t2
  clear h0 h1 h2
  go_wp2_with fail
  clear c1 cg lk
  refine wp_region_noPanic ?_
  have HX := hD (HX.out.below (Below.refl _ _).drew)
  have HB := hD (HB.out.drew)
  generalize hv : w1.drew = v0 at HX HB
  have hS0 : World.cell? v0 ⟨w.heap.size, 0, none⟩ = some (.int .i64 x.time) ∧ World.cell? v0 ⟨w.heap.size, 1, none⟩ = some (.int .i64 x.kind) ∧ World.cell? v0 ⟨w.heap.size, 3, none⟩ = some (.int .i64 x.slot) ∧ World.cell? v0 ⟨w.heap.size, 6, none⟩ = some (.string ⟨x.result.toArray⟩) ∧ World.rangeAt v0 w.heap.size 0 (ptC x) := ⟨HX.out.cells 0 _ rfl, HX.out.cells 1 _ rfl, HX.out.cells 3 _ rfl, HX.out.cells 6 _ rfl, HX.out.range⟩
  refine wp_region_held_drew (S := fun W => World.cell? W ⟨w.heap.size, 0, none⟩ = some (.int .i64 x.time) ∧ World.cell? W ⟨w.heap.size, 1, none⟩ = some (.int .i64 x.kind) ∧ World.cell? W ⟨w.heap.size, 3, none⟩ = some (.int .i64 x.slot) ∧ World.cell? W ⟨w.heap.size, 6, none⟩ = some (.string ⟨x.result.toArray⟩) ∧ World.rangeAt W w.heap.size 0 (ptC x)) (by kernel_rfl) (by rw [hv]; exact hS0) (fun hHeld => ?_)
  rw [hv] at hHeld ⊢
  clear hv
  refine tkq 0 rfl (v := ?_) (.inl ⟨by rfl, ?_⟩) (by assumption) ?_
  rotate_left
  · intro W h; (try dsimp only at h); go_simp; try with_reducible rfl
  try simp only [Act.put,qk1,qk2,qk3,qk4,qk6]
  refine tkq 1 rfl (v := ?_) (.inl ⟨by rfl, ?_⟩) (by assumption) ?_
  rotate_left
  · intro W h; (try dsimp only at h); go_simp; try with_reducible rfl
  try simp only [Act.put,qk1,qk2,qk3,qk4,qk5,qk6]
  refine tkq 2 rfl (v := ?_) (.inl ⟨by rfl, ?_⟩) (by assumption) ?_
  rotate_left
  · intro W h; (try dsimp only at h); go_simp; try with_reducible rfl
  try simp only [Act.put,qk1,qk2,qk3,qk4,qk5,qk6]
  refine tkq 3 rfl (v := ?_) (.inl ⟨by rfl, ?_⟩) (by assumption) ?_
  rotate_left
  · intro W h; (try dsimp only at h); go_simp; try with_reducible rfl
  try simp only [Act.put,qk1,qk2,qk3,qk4,qk5,qk6]
  refine tkq 4 rfl (v := ?_) (.inl ⟨by rfl, ?_⟩) (by assumption) ?_
  rotate_left
  · intro W h; (try dsimp only at h); go_simp; try with_reducible rfl
  try simp only [Act.put,qk1,qk2,qk3,qk4,qk5,qk6]
  refine tkq 5 rfl (v := ?_) (.inl ⟨by rfl, ?_⟩) (by assumption) ?_
  rotate_left
  · intro W h; (try dsimp only at h); go_simp; try with_reducible rfl
  try simp only [Act.put,qk1,qk2,qk3,qk4,qk5,qk6]
  refine tkq 6 rfl (v := ?_) (.inl ⟨by rfl, ?_⟩) (by assumption) ?_
  rotate_left
  · intro W h; (try dsimp only at h); go_simp; try with_reducible rfl
  try simp only [Act.put,qk1,qk2,qk3,qk4,qk5,qk6]
  refine tkq 7 rfl (v := ?_) (.inl ⟨by rfl, ?_⟩) (by assumption) ?_
  rotate_left
  · intro W h; (try dsimp only at h); go_simp; try with_reducible rfl
  try simp only [Act.put,qk1,qk2,qk3,qk4,qk5,qk6]
  refine tkq 8 rfl (v := ?_) (.inl ⟨by rfl, ?_⟩) (by assumption) ?_
  rotate_left
  · intro W h; (try dsimp only at h); go_simp; try with_reducible rfl
  try simp only [Act.put,qk1,qk2,qk3,qk4,qk5,qk6]
  refine tkq 9 rfl (v := ?_) (.inl ⟨by rfl, ?_⟩) (by assumption) ?_
  rotate_left
  · intro W h; (try dsimp only at h); go_simp; try with_reducible rfl
  try simp only [Act.put,qk1,qk2,qk3,qk4,qk5,qk6]
  refine tkq 10 rfl (v := ?_) (.inl ⟨by rfl, ?_⟩) (by assumption) ?_
  rotate_left
  · intro W h; (try dsimp only at h); go_simp; try with_reducible rfl
  try simp only [Act.put,qk1,qk2,qk3,qk4,qk5,qk6]
  refine tkq 11 rfl (v := ?_) (.inl ⟨by rfl, ?_⟩) (by assumption) ?_
  rotate_left
  · intro W h; (try dsimp only at h); go_simp; try with_reducible rfl
  try simp only [Act.put,qk1,qk2,qk3,qk4,qk5,qk6]
  refine tkq 12 rfl (v := ?_) (.inl ⟨by rfl, ?_⟩) (by assumption) ?_
  rotate_left
  · intro W h; (try dsimp only at h); go_simp; try with_reducible rfl
  try simp only [Act.put,qk1,qk2,qk3,qk4,qk5,qk6]
  refine tkq 13 rfl (v := undef) (.inr ⟨by rfl, rfl⟩) (by assumption) ?_
  try simp only [Act.put,qk1,qk2,qk3,qk4,qk5,qk6]
  refine tkq 14 rfl (v := undef) (.inr ⟨by rfl, rfl⟩) (by assumption) ?_
  try simp only [Act.put,qk1,qk2,qk3,qk4,qk5,qk6]
  refine tkq 15 rfl (v := undef) (.inr ⟨by rfl, rfl⟩) (by assumption) ?_
  try simp only [Act.put,qk1,qk2,qk3,qk4,qk5,qk6]
  refine tkq 16 rfl (v := ?_) (.inl ⟨by rfl, ?_⟩) (by assumption) ?_
  rotate_left
  · intro W h; (try dsimp only at h); go_simp; try with_reducible rfl
  try simp only [Act.put,qk1,qk2,qk3,qk4,qk5,qk6]
  refine tkq 17 rfl (v := ?_) (.inl ⟨by rfl, ?_⟩) (by assumption) ?_
  rotate_left
  · intro W h; (try dsimp only at h); go_simp; try with_reducible rfl
  try simp only [Act.put,qk1,qk2,qk3,qk4,qk5,qk6]
  refine tkq 18 rfl (v := undef) (.inr ⟨by rfl, rfl⟩) (by assumption) ?_
  try simp only [Act.put,qk1,qk2,qk3,qk4,qk5,qk6]
  refine tkq 19 rfl (v := undef) (.inr ⟨by rfl, rfl⟩) (by assumption) ?_
  try simp only [Act.put,qk1,qk2,qk3,qk4,qk5,qk6]
  refine tkq 20 rfl (v := undef) (.inr ⟨by rfl, rfl⟩) (by assumption) ?_
  try simp only [Act.put,qk1,qk2,qk3,qk4,qk5,qk6]
  refine tkq 21 rfl (v := undef) (.inr ⟨by rfl, rfl⟩) (by assumption) ?_
  try simp only [Act.put,qk1,qk2,qk3,qk4,qk5,qk6]
  refine tkq 22 rfl (v := ?_) (.inl ⟨by rfl, ?_⟩) (by assumption) ?_
  rotate_left
  · intro W h; (try dsimp only at h); go_simp; try with_reducible rfl
  try simp only [Act.put,qk1,qk2,qk3,qk4,qk5,qk6]
  refine tkq 23 rfl (v := ?_) (.inl ⟨by rfl, ?_⟩) (by assumption) ?_
  rotate_left
  · intro W h; (try dsimp only at h); go_simp; try with_reducible rfl
  try simp only [Act.put,qk1,qk2,qk3,qk4,qk5,qk6]
  refine tkq 24 rfl (v := undef) (.inr ⟨by rfl, rfl⟩) (by assumption) ?_
  try simp only [Act.put,qk1,qk2,qk3,qk4,qk5,qk6]
  refine tkq 25 rfl (v := undef) (.inr ⟨by rfl, rfl⟩) (by assumption) ?_
  try simp only [Act.put,qk1,qk2,qk3,qk4,qk5,qk6]
  refine tkq 26 rfl (v := undef) (.inr ⟨by rfl, rfl⟩) (by assumption) ?_
  try simp only [Act.put,qk1,qk2,qk3,qk4,qk5,qk6]
  refine tkq 27 rfl (v := undef) (.inr ⟨by rfl, rfl⟩) (by assumption) ?_
  try simp only [Act.put,qk1,qk2,qk3,qk4,qk5,qk6]
  refine tkq 28 rfl (v := undef) (.inr ⟨by rfl, rfl⟩) (by assumption) ?_
  try simp only [Act.put,qk1,qk2,qk3,qk4,qk5,qk6]
  refine tkq 29 rfl (v := ?_) (.inl ⟨by rfl, ?_⟩) (by assumption) ?_
  rotate_left
  · intro W h; (try dsimp only at h); go_simp; try with_reducible rfl
  try simp only [Act.put,qk1,qk2,qk3,qk4,qk5,qk6]
  refine wpAnyH_done (by kernel_rfl) ?_ _
  refine NoPanic.normal ?_
  clear hS0
  go_wp2_with fail
  go_ret
  exact ret_bl HF.out HB.out
 have t2 : ¬ (x.slot < 0) := by omega
 have d2 : decide (x.slot < 0) = false := decide_eq_false t2
 by_cases h3 : x.slot ≤ 2147483647
 case neg =>
  have HF : Hid (goodPt E x = false) := hD (by unfold goodPt headOk; rw [decide_eq_false h3]; simp)
  have t3 : 2147483647 < x.slot := by omega
  have d3 : decide (2147483647 < x.slot) = true := decide_eq_true t3
  clear h0 h1 h2 h3
  go_wp2_with fail
  clear c1 cg lk
  refine wp_region_noPanic ?_
  have HX := hD (HX.out.below (Below.refl _ _).drew)
  have HB := hD (HB.out.drew)
  generalize hv : w1.drew = v0 at HX HB
  have hS0 : World.cell? v0 ⟨w.heap.size, 0, none⟩ = some (.int .i64 x.time) ∧ World.cell? v0 ⟨w.heap.size, 1, none⟩ = some (.int .i64 x.kind) ∧ World.cell? v0 ⟨w.heap.size, 3, none⟩ = some (.int .i64 x.slot) ∧ World.cell? v0 ⟨w.heap.size, 6, none⟩ = some (.string ⟨x.result.toArray⟩) ∧ World.rangeAt v0 w.heap.size 0 (ptC x) := ⟨HX.out.cells 0 _ rfl, HX.out.cells 1 _ rfl, HX.out.cells 3 _ rfl, HX.out.cells 6 _ rfl, HX.out.range⟩
  refine wp_region_held_drew (S := fun W => World.cell? W ⟨w.heap.size, 0, none⟩ = some (.int .i64 x.time) ∧ World.cell? W ⟨w.heap.size, 1, none⟩ = some (.int .i64 x.kind) ∧ World.cell? W ⟨w.heap.size, 3, none⟩ = some (.int .i64 x.slot) ∧ World.cell? W ⟨w.heap.size, 6, none⟩ = some (.string ⟨x.result.toArray⟩) ∧ World.rangeAt W w.heap.size 0 (ptC x)) (by kernel_rfl) (by rw [hv]; exact hS0) (fun hHeld => ?_)
  rw [hv] at hHeld ⊢
  clear hv
  refine tkq 0 rfl (v := ?_) (.inl ⟨by rfl, ?_⟩) (by assumption) ?_
  rotate_left
  · intro W h; (try dsimp only at h); go_simp; try with_reducible rfl
  try simp only [Act.put,qk1,qk2,qk3,qk4,qk6]
  refine tkq 1 rfl (v := ?_) (.inl ⟨by rfl, ?_⟩) (by assumption) ?_
  rotate_left
  · intro W h; (try dsimp only at h); go_simp; try with_reducible rfl
  try simp only [Act.put,qk1,qk2,qk3,qk4,qk5,qk6]
  refine tkq 2 rfl (v := ?_) (.inl ⟨by rfl, ?_⟩) (by assumption) ?_
  rotate_left
  · intro W h; (try dsimp only at h); go_simp; try with_reducible rfl
  try simp only [Act.put,qk1,qk2,qk3,qk4,qk5,qk6]
  refine tkq 3 rfl (v := ?_) (.inl ⟨by rfl, ?_⟩) (by assumption) ?_
  rotate_left
  · intro W h; (try dsimp only at h); go_simp; try with_reducible rfl
  try simp only [Act.put,qk1,qk2,qk3,qk4,qk5,qk6]
  refine tkq 4 rfl (v := ?_) (.inl ⟨by rfl, ?_⟩) (by assumption) ?_
  rotate_left
  · intro W h; (try dsimp only at h); go_simp; try with_reducible rfl
  try simp only [Act.put,qk1,qk2,qk3,qk4,qk5,qk6]
  refine tkq 5 rfl (v := ?_) (.inl ⟨by rfl, ?_⟩) (by assumption) ?_
  rotate_left
  · intro W h; (try dsimp only at h); go_simp; try with_reducible rfl
  try simp only [Act.put,qk1,qk2,qk3,qk4,qk5,qk6]
  refine tkq 6 rfl (v := ?_) (.inl ⟨by rfl, ?_⟩) (by assumption) ?_
  rotate_left
  · intro W h; (try dsimp only at h); go_simp; try with_reducible rfl
  try simp only [Act.put,qk1,qk2,qk3,qk4,qk5,qk6]
  refine tkq 7 rfl (v := ?_) (.inl ⟨by rfl, ?_⟩) (by assumption) ?_
  rotate_left
  · intro W h; (try dsimp only at h); go_simp; try with_reducible rfl
  try simp only [Act.put,qk1,qk2,qk3,qk4,qk5,qk6]
  refine tkq 8 rfl (v := ?_) (.inl ⟨by rfl, ?_⟩) (by assumption) ?_
  rotate_left
  · intro W h; (try dsimp only at h); go_simp; try with_reducible rfl
  try simp only [Act.put,qk1,qk2,qk3,qk4,qk5,qk6]
  refine tkq 9 rfl (v := ?_) (.inl ⟨by rfl, ?_⟩) (by assumption) ?_
  rotate_left
  · intro W h; (try dsimp only at h); go_simp; try with_reducible rfl
  try simp only [Act.put,qk1,qk2,qk3,qk4,qk5,qk6]
  refine tkq 10 rfl (v := ?_) (.inl ⟨by rfl, ?_⟩) (by assumption) ?_
  rotate_left
  · intro W h; (try dsimp only at h); go_simp; try with_reducible rfl
  try simp only [Act.put,qk1,qk2,qk3,qk4,qk5,qk6]
  refine tkq 11 rfl (v := ?_) (.inl ⟨by rfl, ?_⟩) (by assumption) ?_
  rotate_left
  · intro W h; (try dsimp only at h); go_simp; try with_reducible rfl
  try simp only [Act.put,qk1,qk2,qk3,qk4,qk5,qk6]
  refine tkq 12 rfl (v := ?_) (.inl ⟨by rfl, ?_⟩) (by assumption) ?_
  rotate_left
  · intro W h; (try dsimp only at h); go_simp; try with_reducible rfl
  try simp only [Act.put,qk1,qk2,qk3,qk4,qk5,qk6]
  refine tkq 13 rfl (v := ?_) (.inl ⟨by rfl, ?_⟩) (by assumption) ?_
  rotate_left
  · intro W h; (try dsimp only at h); go_simp; try with_reducible rfl
  try simp only [Act.put,qk1,qk2,qk3,qk4,qk5,qk6]
  refine tkq 14 rfl (v := ?_) (.inl ⟨by rfl, ?_⟩) (by assumption) ?_
  rotate_left
  · intro W h; (try dsimp only at h); go_simp; try with_reducible rfl
  try simp only [Act.put,qk1,qk2,qk3,qk4,qk5,qk6]
  refine tkq 15 rfl (v := ?_) (.inl ⟨by rfl, ?_⟩) (by assumption) ?_
  rotate_left
  · intro W h; (try dsimp only at h); go_simp; try with_reducible rfl
  try simp only [Act.put,qk1,qk2,qk3,qk4,qk5,qk6]
  refine tkq 16 rfl (v := ?_) (.inl ⟨by rfl, ?_⟩) (by assumption) ?_
  rotate_left
  · intro W h; (try dsimp only at h); go_simp; try with_reducible rfl
  try simp only [Act.put,qk1,qk2,qk3,qk4,qk5,qk6]
  refine tkq 17 rfl (v := ?_) (.inl ⟨by rfl, ?_⟩) (by assumption) ?_
  rotate_left
  · intro W h; (try dsimp only at h); go_simp; try with_reducible rfl
  try simp only [Act.put,qk1,qk2,qk3,qk4,qk5,qk6]
  refine tkq 18 rfl (v := undef) (.inr ⟨by rfl, rfl⟩) (by assumption) ?_
  try simp only [Act.put,qk1,qk2,qk3,qk4,qk5,qk6]
  refine tkq 19 rfl (v := undef) (.inr ⟨by rfl, rfl⟩) (by assumption) ?_
  try simp only [Act.put,qk1,qk2,qk3,qk4,qk5,qk6]
  refine tkq 20 rfl (v := undef) (.inr ⟨by rfl, rfl⟩) (by assumption) ?_
  try simp only [Act.put,qk1,qk2,qk3,qk4,qk5,qk6]
  refine tkq 21 rfl (v := undef) (.inr ⟨by rfl, rfl⟩) (by assumption) ?_
  try simp only [Act.put,qk1,qk2,qk3,qk4,qk5,qk6]
  refine tkq 22 rfl (v := ?_) (.inl ⟨by rfl, ?_⟩) (by assumption) ?_
  rotate_left
  · intro W h; (try dsimp only at h); go_simp; try with_reducible rfl
  try simp only [Act.put,qk1,qk2,qk3,qk4,qk5,qk6]
  refine tkq 23 rfl (v := ?_) (.inl ⟨by rfl, ?_⟩) (by assumption) ?_
  rotate_left
  · intro W h; (try dsimp only at h); go_simp; try with_reducible rfl
  try simp only [Act.put,qk1,qk2,qk3,qk4,qk5,qk6]
  refine tkq 24 rfl (v := undef) (.inr ⟨by rfl, rfl⟩) (by assumption) ?_
  try simp only [Act.put,qk1,qk2,qk3,qk4,qk5,qk6]
  refine tkq 25 rfl (v := undef) (.inr ⟨by rfl, rfl⟩) (by assumption) ?_
  try simp only [Act.put,qk1,qk2,qk3,qk4,qk5,qk6]
  refine tkq 26 rfl (v := undef) (.inr ⟨by rfl, rfl⟩) (by assumption) ?_
  try simp only [Act.put,qk1,qk2,qk3,qk4,qk5,qk6]
  refine tkq 27 rfl (v := undef) (.inr ⟨by rfl, rfl⟩) (by assumption) ?_
  try simp only [Act.put,qk1,qk2,qk3,qk4,qk5,qk6]
  refine tkq 28 rfl (v := undef) (.inr ⟨by rfl, rfl⟩) (by assumption) ?_
  try simp only [Act.put,qk1,qk2,qk3,qk4,qk5,qk6]
  refine tkq 29 rfl (v := ?_) (.inl ⟨by rfl, ?_⟩) (by assumption) ?_
  rotate_left
  · intro W h; (try dsimp only at h); go_simp; try with_reducible rfl
  try simp only [Act.put,qk1,qk2,qk3,qk4,qk5,qk6]
  refine wpAnyH_done (by kernel_rfl) ?_ _
  refine NoPanic.normal ?_
  clear hS0
  go_wp2_with fail
  go_ret
  exact ret_bl HF.out HB.out
 have t3 : ¬ (2147483647 < x.slot) := by omega
 have d3 : decide (2147483647 < x.slot) = false := decide_eq_false t3
 by_cases h4 : x.result.length ≤ 400
 case neg =>
  have HF : Hid (goodPt E x = false) := hD (by unfold goodPt headOk; rw [decide_eq_false h4]; simp)
  have t4 : (400 : Int) < (x.result.length : Int) := by omega
  have d4 : decide ((400 : Int) < (x.result.length : Int)) = true := decide_eq_true t4
  clear h0 h1 h2 h3 h4
  go_wp2_with fail
  clear c1 cg lk
  refine wp_region_noPanic ?_
  have HX := hD (HX.out.below (Below.refl _ _).drew)
  have HB := hD (HB.out.drew)
  generalize hv : w1.drew = v0 at HX HB
  have hS0 : World.cell? v0 ⟨w.heap.size, 0, none⟩ = some (.int .i64 x.time) ∧ World.cell? v0 ⟨w.heap.size, 1, none⟩ = some (.int .i64 x.kind) ∧ World.cell? v0 ⟨w.heap.size, 3, none⟩ = some (.int .i64 x.slot) ∧ World.cell? v0 ⟨w.heap.size, 6, none⟩ = some (.string ⟨x.result.toArray⟩) ∧ World.rangeAt v0 w.heap.size 0 (ptC x) := ⟨HX.out.cells 0 _ rfl, HX.out.cells 1 _ rfl, HX.out.cells 3 _ rfl, HX.out.cells 6 _ rfl, HX.out.range⟩
  refine wp_region_held_drew (S := fun W => World.cell? W ⟨w.heap.size, 0, none⟩ = some (.int .i64 x.time) ∧ World.cell? W ⟨w.heap.size, 1, none⟩ = some (.int .i64 x.kind) ∧ World.cell? W ⟨w.heap.size, 3, none⟩ = some (.int .i64 x.slot) ∧ World.cell? W ⟨w.heap.size, 6, none⟩ = some (.string ⟨x.result.toArray⟩) ∧ World.rangeAt W w.heap.size 0 (ptC x)) (by kernel_rfl) (by rw [hv]; exact hS0) (fun hHeld => ?_)
  rw [hv] at hHeld ⊢
  clear hv
  refine tkq 0 rfl (v := ?_) (.inl ⟨by rfl, ?_⟩) (by assumption) ?_
  rotate_left
  · intro W h; (try dsimp only at h); go_simp; try with_reducible rfl
  try simp only [Act.put,qk1,qk2,qk3,qk4,qk6]
  refine tkq 1 rfl (v := ?_) (.inl ⟨by rfl, ?_⟩) (by assumption) ?_
  rotate_left
  · intro W h; (try dsimp only at h); go_simp; try with_reducible rfl
  try simp only [Act.put,qk1,qk2,qk3,qk4,qk5,qk6]
  refine tkq 2 rfl (v := ?_) (.inl ⟨by rfl, ?_⟩) (by assumption) ?_
  rotate_left
  · intro W h; (try dsimp only at h); go_simp; try with_reducible rfl
  try simp only [Act.put,qk1,qk2,qk3,qk4,qk5,qk6]
  refine tkq 3 rfl (v := ?_) (.inl ⟨by rfl, ?_⟩) (by assumption) ?_
  rotate_left
  · intro W h; (try dsimp only at h); go_simp; try with_reducible rfl
  try simp only [Act.put,qk1,qk2,qk3,qk4,qk5,qk6]
  refine tkq 4 rfl (v := ?_) (.inl ⟨by rfl, ?_⟩) (by assumption) ?_
  rotate_left
  · intro W h; (try dsimp only at h); go_simp; try with_reducible rfl
  try simp only [Act.put,qk1,qk2,qk3,qk4,qk5,qk6]
  refine tkq 5 rfl (v := ?_) (.inl ⟨by rfl, ?_⟩) (by assumption) ?_
  rotate_left
  · intro W h; (try dsimp only at h); go_simp; try with_reducible rfl
  try simp only [Act.put,qk1,qk2,qk3,qk4,qk5,qk6]
  refine tkq 6 rfl (v := ?_) (.inl ⟨by rfl, ?_⟩) (by assumption) ?_
  rotate_left
  · intro W h; (try dsimp only at h); go_simp; try with_reducible rfl
  try simp only [Act.put,qk1,qk2,qk3,qk4,qk5,qk6]
  refine tkq 7 rfl (v := ?_) (.inl ⟨by rfl, ?_⟩) (by assumption) ?_
  rotate_left
  · intro W h; (try dsimp only at h); go_simp; try with_reducible rfl
  try simp only [Act.put,qk1,qk2,qk3,qk4,qk5,qk6]
  refine tkq 8 rfl (v := ?_) (.inl ⟨by rfl, ?_⟩) (by assumption) ?_
  rotate_left
  · intro W h; (try dsimp only at h); go_simp; try with_reducible rfl
  try simp only [Act.put,qk1,qk2,qk3,qk4,qk5,qk6]
  refine tkq 9 rfl (v := ?_) (.inl ⟨by rfl, ?_⟩) (by assumption) ?_
  rotate_left
  · intro W h; (try dsimp only at h); go_simp; try with_reducible rfl
  try simp only [Act.put,qk1,qk2,qk3,qk4,qk5,qk6]
  refine tkq 10 rfl (v := ?_) (.inl ⟨by rfl, ?_⟩) (by assumption) ?_
  rotate_left
  · intro W h; (try dsimp only at h); go_simp; try with_reducible rfl
  try simp only [Act.put,qk1,qk2,qk3,qk4,qk5,qk6]
  refine tkq 11 rfl (v := ?_) (.inl ⟨by rfl, ?_⟩) (by assumption) ?_
  rotate_left
  · intro W h; (try dsimp only at h); go_simp; try with_reducible rfl
  try simp only [Act.put,qk1,qk2,qk3,qk4,qk5,qk6]
  refine tkq 12 rfl (v := ?_) (.inl ⟨by rfl, ?_⟩) (by assumption) ?_
  rotate_left
  · intro W h; (try dsimp only at h); go_simp; try with_reducible rfl
  try simp only [Act.put,qk1,qk2,qk3,qk4,qk5,qk6]
  refine tkq 13 rfl (v := ?_) (.inl ⟨by rfl, ?_⟩) (by assumption) ?_
  rotate_left
  · intro W h; (try dsimp only at h); go_simp; try with_reducible rfl
  try simp only [Act.put,qk1,qk2,qk3,qk4,qk5,qk6]
  refine tkq 14 rfl (v := ?_) (.inl ⟨by rfl, ?_⟩) (by assumption) ?_
  rotate_left
  · intro W h; (try dsimp only at h); go_simp; try with_reducible rfl
  try simp only [Act.put,qk1,qk2,qk3,qk4,qk5,qk6]
  refine tkq 15 rfl (v := ?_) (.inl ⟨by rfl, ?_⟩) (by assumption) ?_
  rotate_left
  · intro W h; (try dsimp only at h); go_simp; try with_reducible rfl
  try simp only [Act.put,qk1,qk2,qk3,qk4,qk5,qk6]
  refine tkq 16 rfl (v := ?_) (.inl ⟨by rfl, ?_⟩) (by assumption) ?_
  rotate_left
  · intro W h; (try dsimp only at h); go_simp; try with_reducible rfl
  try simp only [Act.put,qk1,qk2,qk3,qk4,qk5,qk6]
  refine tkq 17 rfl (v := ?_) (.inl ⟨by rfl, ?_⟩) (by assumption) ?_
  rotate_left
  · intro W h; (try dsimp only at h); go_simp; try with_reducible rfl
  try simp only [Act.put,qk1,qk2,qk3,qk4,qk5,qk6]
  refine tkq 18 rfl (v := ?_) (.inl ⟨by rfl, ?_⟩) (by assumption) ?_
  rotate_left
  · intro W h; (try dsimp only at h); go_simp; try with_reducible rfl
  try simp only [Act.put,qk1,qk2,qk3,qk4,qk5,qk6]
  refine tkq 19 rfl (v := ?_) (.inl ⟨by rfl, ?_⟩) (by assumption) ?_
  rotate_left
  · intro W h; (try dsimp only at h); go_simp; try with_reducible rfl
  try simp only [Act.put,qk1,qk2,qk3,qk4,qk5,qk6]
  refine tkq 20 rfl (v := ?_) (.inl ⟨by rfl, ?_⟩) (by assumption) ?_
  rotate_left
  · intro W h; (try dsimp only at h); go_simp; try with_reducible rfl
  try simp only [Act.put,qk1,qk2,qk3,qk4,qk5,qk6]
  refine tkq 21 rfl (v := ?_) (.inl ⟨by rfl, ?_⟩) (by assumption) ?_
  rotate_left
  · intro W h; (try dsimp only at h); go_simp; try with_reducible rfl
  try simp only [Act.put,qk1,qk2,qk3,qk4,qk5,qk6]
  refine tkq 22 rfl (v := ?_) (.inl ⟨by rfl, ?_⟩) (by assumption) ?_
  rotate_left
  · intro W h; (try dsimp only at h); go_simp; try with_reducible rfl
  try simp only [Act.put,qk1,qk2,qk3,qk4,qk5,qk6]
  refine tkq 23 rfl (v := ?_) (.inl ⟨by rfl, ?_⟩) (by assumption) ?_
  rotate_left
  · intro W h; (try dsimp only at h); go_simp; try with_reducible rfl
  try simp only [Act.put,qk1,qk2,qk3,qk4,qk5,qk6]
  refine tkq 24 rfl (v := undef) (.inr ⟨by rfl, rfl⟩) (by assumption) ?_
  try simp only [Act.put,qk1,qk2,qk3,qk4,qk5,qk6]
  refine tkq 25 rfl (v := undef) (.inr ⟨by rfl, rfl⟩) (by assumption) ?_
  try simp only [Act.put,qk1,qk2,qk3,qk4,qk5,qk6]
  refine tkq 26 rfl (v := undef) (.inr ⟨by rfl, rfl⟩) (by assumption) ?_
  try simp only [Act.put,qk1,qk2,qk3,qk4,qk5,qk6]
  refine tkq 27 rfl (v := undef) (.inr ⟨by rfl, rfl⟩) (by assumption) ?_
  try simp only [Act.put,qk1,qk2,qk3,qk4,qk5,qk6]
  refine tkq 28 rfl (v := undef) (.inr ⟨by rfl, rfl⟩) (by assumption) ?_
  try simp only [Act.put,qk1,qk2,qk3,qk4,qk5,qk6]
  refine tkq 29 rfl (v := ?_) (.inl ⟨by rfl, ?_⟩) (by assumption) ?_
  rotate_left
  · intro W h; (try dsimp only at h); go_simp; try with_reducible rfl
  try simp only [Act.put,qk1,qk2,qk3,qk4,qk5,qk6]
  refine wpAnyH_done (by kernel_rfl) ?_ _
  refine NoPanic.normal ?_
  clear hS0
  go_wp2_with fail
  go_ret
  exact ret_bl HF.out HB.out
 have t4 : ¬ ((400 : Int) < (x.result.length : Int)) := by omega
 have d4 : decide ((400 : Int) < (x.result.length : Int)) = false := decide_eq_false t4
 have HH : Hid (headOk x = true) := hD (by
  unfold isKind at h0
  unfold headOk
  rw [h0, decide_eq_true h1, decide_eq_true h2, decide_eq_true h3, decide_eq_true h4]; rfl)
 clear h0 h1 h2 h3 h4
 cases hq : eqPt x (keptPt x) with
 | false =>
  have HF : Hid (goodPt E x = false) := hD (by unfold goodPt; rw [hq]; simp)
  have HQ := hD hq
  clear hq
  go_wp2_with fail
  clear c1 cg lk
  refine wp_region_noPanic ?_
  have HX := hD (HX.out.below (Below.refl _ _).drew)
  have HB := hD (HB.out.drew)
  generalize hv : w1.drew = v0 at HX HB
  have hS0 : World.cell? v0 ⟨w.heap.size, 0, none⟩ = some (.int .i64 x.time) ∧ World.cell? v0 ⟨w.heap.size, 1, none⟩ = some (.int .i64 x.kind) ∧ World.cell? v0 ⟨w.heap.size, 3, none⟩ = some (.int .i64 x.slot) ∧ World.cell? v0 ⟨w.heap.size, 6, none⟩ = some (.string ⟨x.result.toArray⟩) ∧ World.rangeAt v0 w.heap.size 0 (ptC x) := ⟨HX.out.cells 0 _ rfl, HX.out.cells 1 _ rfl, HX.out.cells 3 _ rfl, HX.out.cells 6 _ rfl, HX.out.range⟩
  refine wp_region_held_drew (S := fun W => World.cell? W ⟨w.heap.size, 0, none⟩ = some (.int .i64 x.time) ∧ World.cell? W ⟨w.heap.size, 1, none⟩ = some (.int .i64 x.kind) ∧ World.cell? W ⟨w.heap.size, 3, none⟩ = some (.int .i64 x.slot) ∧ World.cell? W ⟨w.heap.size, 6, none⟩ = some (.string ⟨x.result.toArray⟩) ∧ World.rangeAt W w.heap.size 0 (ptC x)) (by kernel_rfl) (by rw [hv]; exact hS0) (fun hHeld => ?_)
  rw [hv] at hHeld ⊢
  clear hv
  refine tkq 0 rfl (v := ?_) (.inl ⟨by rfl, ?_⟩) (by assumption) ?_
  rotate_left
  · intro W h; (try dsimp only at h); go_simp; try with_reducible rfl
  try simp only [Act.put,qk1,qk2,qk3,qk4,qk6]
  refine tkq 1 rfl (v := ?_) (.inl ⟨by rfl, ?_⟩) (by assumption) ?_
  rotate_left
  · intro W h; (try dsimp only at h); go_simp; try with_reducible rfl
  try simp only [Act.put,qk1,qk2,qk3,qk4,qk5,qk6]
  refine tkq 2 rfl (v := ?_) (.inl ⟨by rfl, ?_⟩) (by assumption) ?_
  rotate_left
  · intro W h; (try dsimp only at h); go_simp; try with_reducible rfl
  try simp only [Act.put,qk1,qk2,qk3,qk4,qk5,qk6]
  refine tkq 3 rfl (v := ?_) (.inl ⟨by rfl, ?_⟩) (by assumption) ?_
  rotate_left
  · intro W h; (try dsimp only at h); go_simp; try with_reducible rfl
  try simp only [Act.put,qk1,qk2,qk3,qk4,qk5,qk6]
  refine tkq 4 rfl (v := ?_) (.inl ⟨by rfl, ?_⟩) (by assumption) ?_
  rotate_left
  · intro W h; (try dsimp only at h); go_simp; try with_reducible rfl
  try simp only [Act.put,qk1,qk2,qk3,qk4,qk5,qk6]
  refine tkq 5 rfl (v := ?_) (.inl ⟨by rfl, ?_⟩) (by assumption) ?_
  rotate_left
  · intro W h; (try dsimp only at h); go_simp; try with_reducible rfl
  try simp only [Act.put,qk1,qk2,qk3,qk4,qk5,qk6]
  refine tkq 6 rfl (v := ?_) (.inl ⟨by rfl, ?_⟩) (by assumption) ?_
  rotate_left
  · intro W h; (try dsimp only at h); go_simp; try with_reducible rfl
  try simp only [Act.put,qk1,qk2,qk3,qk4,qk5,qk6]
  refine tkq 7 rfl (v := ?_) (.inl ⟨by rfl, ?_⟩) (by assumption) ?_
  rotate_left
  · intro W h; (try dsimp only at h); go_simp; try with_reducible rfl
  try simp only [Act.put,qk1,qk2,qk3,qk4,qk5,qk6]
  refine tkq 8 rfl (v := ?_) (.inl ⟨by rfl, ?_⟩) (by assumption) ?_
  rotate_left
  · intro W h; (try dsimp only at h); go_simp; try with_reducible rfl
  try simp only [Act.put,qk1,qk2,qk3,qk4,qk5,qk6]
  refine tkq 9 rfl (v := ?_) (.inl ⟨by rfl, ?_⟩) (by assumption) ?_
  rotate_left
  · intro W h; (try dsimp only at h); go_simp; try with_reducible rfl
  try simp only [Act.put,qk1,qk2,qk3,qk4,qk5,qk6]
  refine tkq 10 rfl (v := ?_) (.inl ⟨by rfl, ?_⟩) (by assumption) ?_
  rotate_left
  · intro W h; (try dsimp only at h); go_simp; try with_reducible rfl
  try simp only [Act.put,qk1,qk2,qk3,qk4,qk5,qk6]
  refine tkq 11 rfl (v := ?_) (.inl ⟨by rfl, ?_⟩) (by assumption) ?_
  rotate_left
  · intro W h; (try dsimp only at h); go_simp; try with_reducible rfl
  try simp only [Act.put,qk1,qk2,qk3,qk4,qk5,qk6]
  refine tkq 12 rfl (v := ?_) (.inl ⟨by rfl, ?_⟩) (by assumption) ?_
  rotate_left
  · intro W h; (try dsimp only at h); go_simp; try with_reducible rfl
  try simp only [Act.put,qk1,qk2,qk3,qk4,qk5,qk6]
  refine tkq 13 rfl (v := ?_) (.inl ⟨by rfl, ?_⟩) (by assumption) ?_
  rotate_left
  · intro W h; (try dsimp only at h); go_simp; try with_reducible rfl
  try simp only [Act.put,qk1,qk2,qk3,qk4,qk5,qk6]
  refine tkq 14 rfl (v := ?_) (.inl ⟨by rfl, ?_⟩) (by assumption) ?_
  rotate_left
  · intro W h; (try dsimp only at h); go_simp; try with_reducible rfl
  try simp only [Act.put,qk1,qk2,qk3,qk4,qk5,qk6]
  refine tkq 15 rfl (v := ?_) (.inl ⟨by rfl, ?_⟩) (by assumption) ?_
  rotate_left
  · intro W h; (try dsimp only at h); go_simp; try with_reducible rfl
  try simp only [Act.put,qk1,qk2,qk3,qk4,qk5,qk6]
  refine tkq 16 rfl (v := ?_) (.inl ⟨by rfl, ?_⟩) (by assumption) ?_
  rotate_left
  · intro W h; (try dsimp only at h); go_simp; try with_reducible rfl
  try simp only [Act.put,qk1,qk2,qk3,qk4,qk5,qk6]
  refine tkq 17 rfl (v := ?_) (.inl ⟨by rfl, ?_⟩) (by assumption) ?_
  rotate_left
  · intro W h; (try dsimp only at h); go_simp; try with_reducible rfl
  try simp only [Act.put,qk1,qk2,qk3,qk4,qk5,qk6]
  refine tkq 18 rfl (v := ?_) (.inl ⟨by rfl, ?_⟩) (by assumption) ?_
  rotate_left
  · intro W h; (try dsimp only at h); go_simp; try with_reducible rfl
  try simp only [Act.put,qk1,qk2,qk3,qk4,qk5,qk6]
  refine tkq 19 rfl (v := ?_) (.inl ⟨by rfl, ?_⟩) (by assumption) ?_
  rotate_left
  · intro W h; (try dsimp only at h); go_simp; try with_reducible rfl
  try simp only [Act.put,qk1,qk2,qk3,qk4,qk5,qk6]
  refine tkq 20 rfl (v := ?_) (.inl ⟨by rfl, ?_⟩) (by assumption) ?_
  rotate_left
  · intro W h; (try dsimp only at h); go_simp; try with_reducible rfl
  try simp only [Act.put,qk1,qk2,qk3,qk4,qk5,qk6]
  refine tkq 21 rfl (v := ?_) (.inl ⟨by rfl, ?_⟩) (by assumption) ?_
  rotate_left
  · intro W h; (try dsimp only at h); go_simp; try with_reducible rfl
  try simp only [Act.put,qk1,qk2,qk3,qk4,qk5,qk6]
  refine tkq 22 rfl (v := ?_) (.inl ⟨by rfl, ?_⟩) (by assumption) ?_
  rotate_left
  · intro W h; (try dsimp only at h); go_simp; try with_reducible rfl
  try simp only [Act.put,qk1,qk2,qk3,qk4,qk5,qk6]
  refine tkq 23 rfl (v := ?_) (.inl ⟨by rfl, ?_⟩) (by assumption) ?_
  rotate_left
  · intro W h; (try dsimp only at h); go_simp; try with_reducible rfl
  try simp only [Act.put,qk1,qk2,qk3,qk4,qk5,qk6]
  refine tkq 24 rfl (yieldsIf_load_mid (by rfl) 40 _ (by rfl) _ 0 (by rfl) (ptC x) _ (fun W h => h.2.2.2.2) Tryz.underlying40 rfl (infoPt x)) (by assumption) ?_
  try simp only [Act.put,qk1,qk2,qk3,qk4,qk5,qk6]
  refine tkq 25 rfl (yieldsIf_load_mid (by rfl) 40 _ (by rfl) _ 0 (by rfl) (ptC x) _ (fun W h => h.2.2.2.2) Tryz.underlying40 rfl (infoPt x)) (by assumption) ?_
  try simp only [Act.put,qk1,qk2,qk3,qk4,qk5,qk6]
  refine tkr 26 rfl (fun K hK => ?_)
  go_simp
  go_at_call 57
  refine (trOnly_any x _).mono ?_
  rintro e v2 ⟨rfl, hs⟩
  have HX := hD (HX.out.below hs)
  have HB := hD (bon HB.out hs)
  clear hs
  go_wp2_with fail
  have hSv2 : World.cell? v2 ⟨w.heap.size, 0, none⟩ = some (.int .i64 x.time) ∧ World.cell? v2 ⟨w.heap.size, 1, none⟩ = some (.int .i64 x.kind) ∧ World.cell? v2 ⟨w.heap.size, 3, none⟩ = some (.int .i64 x.slot) ∧ World.cell? v2 ⟨w.heap.size, 6, none⟩ = some (.string ⟨x.result.toArray⟩) ∧ World.rangeAt v2 w.heap.size 0 (ptC x) := ⟨HX.out.cells 0 _ rfl, HX.out.cells 1 _ rfl, HX.out.cells 3 _ rfl, HX.out.cells 6 _ rfl, HX.out.range⟩
  refine hK.out _ _ hSv2 (fun hHeld => ?_)
  clear hK K
  try simp only [Act.put,qk1,qk2,qk3,qk4,qk5,qk6]
  refine tkr 27 rfl (fun K hK => ?_)
  go_simp
  go_at_call 56
  refine ((HQ.out ▸ trEqual_any x (keptPt x) _ (Pt.below HOk.out HB.out) (kept_ok (Pt.below HOk.out HB.out)) HS.out (kept_sz HS.out))).mono ?_
  rintro e v3 ⟨rfl, hs⟩
  have HX := hD (HX.out.below hs)
  have HB := hD (bon HB.out hs)
  clear hs
  go_wp2_with fail
  have hSv3 : World.cell? v3 ⟨w.heap.size, 0, none⟩ = some (.int .i64 x.time) ∧ World.cell? v3 ⟨w.heap.size, 1, none⟩ = some (.int .i64 x.kind) ∧ World.cell? v3 ⟨w.heap.size, 3, none⟩ = some (.int .i64 x.slot) ∧ World.cell? v3 ⟨w.heap.size, 6, none⟩ = some (.string ⟨x.result.toArray⟩) ∧ World.rangeAt v3 w.heap.size 0 (ptC x) := ⟨HX.out.cells 0 _ rfl, HX.out.cells 1 _ rfl, HX.out.cells 3 _ rfl, HX.out.cells 6 _ rfl, HX.out.range⟩
  refine hK.out _ _ hSv3 (fun hHeld => ?_)
  clear hK K
  try simp only [Act.put,qk1,qk2,qk3,qk4,qk5,qk6]
  refine tkq 28 rfl (v := ?_) (.inl ⟨by rfl, ?_⟩) (by assumption) ?_
  rotate_left
  · intro W h; (try dsimp only at h); go_simp; try with_reducible rfl
  try simp only [Act.put,qk1,qk2,qk3,qk4,qk5,qk6]
  refine tkq 29 rfl (v := ?_) (.inl ⟨by rfl, ?_⟩) (by assumption) ?_
  rotate_left
  · intro W h; (try dsimp only at h); go_simp; try with_reducible rfl
  try simp only [Act.put,qk1,qk2,qk3,qk4,qk5,qk6]
  refine wpAnyH_done (by kernel_rfl) ?_ _
  refine NoPanic.normal ?_
  clear hS0 hSv2 hSv3
  go_wp2_with fail
  go_ret
  exact ret_bl HF.out HB.out
 | true =>
  have HQ := hD hq
  clear hq
  go_wp2_with fail
  clear c1 cg lk
  refine wp_region_noPanic ?_
  have HX := hD (HX.out.below (Below.refl _ _).drew)
  have HB := hD (HB.out.drew)
  generalize hv : w1.drew = v0 at HX HB
  have hS0 : World.cell? v0 ⟨w.heap.size, 0, none⟩ = some (.int .i64 x.time) ∧ World.cell? v0 ⟨w.heap.size, 1, none⟩ = some (.int .i64 x.kind) ∧ World.cell? v0 ⟨w.heap.size, 3, none⟩ = some (.int .i64 x.slot) ∧ World.cell? v0 ⟨w.heap.size, 6, none⟩ = some (.string ⟨x.result.toArray⟩) ∧ World.rangeAt v0 w.heap.size 0 (ptC x) := ⟨HX.out.cells 0 _ rfl, HX.out.cells 1 _ rfl, HX.out.cells 3 _ rfl, HX.out.cells 6 _ rfl, HX.out.range⟩
  refine wp_region_held_drew (S := fun W => World.cell? W ⟨w.heap.size, 0, none⟩ = some (.int .i64 x.time) ∧ World.cell? W ⟨w.heap.size, 1, none⟩ = some (.int .i64 x.kind) ∧ World.cell? W ⟨w.heap.size, 3, none⟩ = some (.int .i64 x.slot) ∧ World.cell? W ⟨w.heap.size, 6, none⟩ = some (.string ⟨x.result.toArray⟩) ∧ World.rangeAt W w.heap.size 0 (ptC x)) (by kernel_rfl) (by rw [hv]; exact hS0) (fun hHeld => ?_)
  rw [hv] at hHeld ⊢
  clear hv
  refine tkq 0 rfl (v := ?_) (.inl ⟨by rfl, ?_⟩) (by assumption) ?_
  rotate_left
  · intro W h; (try dsimp only at h); go_simp; try with_reducible rfl
  try simp only [Act.put,qk1,qk2,qk3,qk4,qk6]
  refine tkq 1 rfl (v := ?_) (.inl ⟨by rfl, ?_⟩) (by assumption) ?_
  rotate_left
  · intro W h; (try dsimp only at h); go_simp; try with_reducible rfl
  try simp only [Act.put,qk1,qk2,qk3,qk4,qk5,qk6]
  refine tkq 2 rfl (v := ?_) (.inl ⟨by rfl, ?_⟩) (by assumption) ?_
  rotate_left
  · intro W h; (try dsimp only at h); go_simp; try with_reducible rfl
  try simp only [Act.put,qk1,qk2,qk3,qk4,qk5,qk6]
  refine tkq 3 rfl (v := ?_) (.inl ⟨by rfl, ?_⟩) (by assumption) ?_
  rotate_left
  · intro W h; (try dsimp only at h); go_simp; try with_reducible rfl
  try simp only [Act.put,qk1,qk2,qk3,qk4,qk5,qk6]
  refine tkq 4 rfl (v := ?_) (.inl ⟨by rfl, ?_⟩) (by assumption) ?_
  rotate_left
  · intro W h; (try dsimp only at h); go_simp; try with_reducible rfl
  try simp only [Act.put,qk1,qk2,qk3,qk4,qk5,qk6]
  refine tkq 5 rfl (v := ?_) (.inl ⟨by rfl, ?_⟩) (by assumption) ?_
  rotate_left
  · intro W h; (try dsimp only at h); go_simp; try with_reducible rfl
  try simp only [Act.put,qk1,qk2,qk3,qk4,qk5,qk6]
  refine tkq 6 rfl (v := ?_) (.inl ⟨by rfl, ?_⟩) (by assumption) ?_
  rotate_left
  · intro W h; (try dsimp only at h); go_simp; try with_reducible rfl
  try simp only [Act.put,qk1,qk2,qk3,qk4,qk5,qk6]
  refine tkq 7 rfl (v := ?_) (.inl ⟨by rfl, ?_⟩) (by assumption) ?_
  rotate_left
  · intro W h; (try dsimp only at h); go_simp; try with_reducible rfl
  try simp only [Act.put,qk1,qk2,qk3,qk4,qk5,qk6]
  refine tkq 8 rfl (v := ?_) (.inl ⟨by rfl, ?_⟩) (by assumption) ?_
  rotate_left
  · intro W h; (try dsimp only at h); go_simp; try with_reducible rfl
  try simp only [Act.put,qk1,qk2,qk3,qk4,qk5,qk6]
  refine tkq 9 rfl (v := ?_) (.inl ⟨by rfl, ?_⟩) (by assumption) ?_
  rotate_left
  · intro W h; (try dsimp only at h); go_simp; try with_reducible rfl
  try simp only [Act.put,qk1,qk2,qk3,qk4,qk5,qk6]
  refine tkq 10 rfl (v := ?_) (.inl ⟨by rfl, ?_⟩) (by assumption) ?_
  rotate_left
  · intro W h; (try dsimp only at h); go_simp; try with_reducible rfl
  try simp only [Act.put,qk1,qk2,qk3,qk4,qk5,qk6]
  refine tkq 11 rfl (v := ?_) (.inl ⟨by rfl, ?_⟩) (by assumption) ?_
  rotate_left
  · intro W h; (try dsimp only at h); go_simp; try with_reducible rfl
  try simp only [Act.put,qk1,qk2,qk3,qk4,qk5,qk6]
  refine tkq 12 rfl (v := ?_) (.inl ⟨by rfl, ?_⟩) (by assumption) ?_
  rotate_left
  · intro W h; (try dsimp only at h); go_simp; try with_reducible rfl
  try simp only [Act.put,qk1,qk2,qk3,qk4,qk5,qk6]
  refine tkq 13 rfl (v := ?_) (.inl ⟨by rfl, ?_⟩) (by assumption) ?_
  rotate_left
  · intro W h; (try dsimp only at h); go_simp; try with_reducible rfl
  try simp only [Act.put,qk1,qk2,qk3,qk4,qk5,qk6]
  refine tkq 14 rfl (v := ?_) (.inl ⟨by rfl, ?_⟩) (by assumption) ?_
  rotate_left
  · intro W h; (try dsimp only at h); go_simp; try with_reducible rfl
  try simp only [Act.put,qk1,qk2,qk3,qk4,qk5,qk6]
  refine tkq 15 rfl (v := ?_) (.inl ⟨by rfl, ?_⟩) (by assumption) ?_
  rotate_left
  · intro W h; (try dsimp only at h); go_simp; try with_reducible rfl
  try simp only [Act.put,qk1,qk2,qk3,qk4,qk5,qk6]
  refine tkq 16 rfl (v := ?_) (.inl ⟨by rfl, ?_⟩) (by assumption) ?_
  rotate_left
  · intro W h; (try dsimp only at h); go_simp; try with_reducible rfl
  try simp only [Act.put,qk1,qk2,qk3,qk4,qk5,qk6]
  refine tkq 17 rfl (v := ?_) (.inl ⟨by rfl, ?_⟩) (by assumption) ?_
  rotate_left
  · intro W h; (try dsimp only at h); go_simp; try with_reducible rfl
  try simp only [Act.put,qk1,qk2,qk3,qk4,qk5,qk6]
  refine tkq 18 rfl (v := ?_) (.inl ⟨by rfl, ?_⟩) (by assumption) ?_
  rotate_left
  · intro W h; (try dsimp only at h); go_simp; try with_reducible rfl
  try simp only [Act.put,qk1,qk2,qk3,qk4,qk5,qk6]
  refine tkq 19 rfl (v := ?_) (.inl ⟨by rfl, ?_⟩) (by assumption) ?_
  rotate_left
  · intro W h; (try dsimp only at h); go_simp; try with_reducible rfl
  try simp only [Act.put,qk1,qk2,qk3,qk4,qk5,qk6]
  refine tkq 20 rfl (v := ?_) (.inl ⟨by rfl, ?_⟩) (by assumption) ?_
  rotate_left
  · intro W h; (try dsimp only at h); go_simp; try with_reducible rfl
  try simp only [Act.put,qk1,qk2,qk3,qk4,qk5,qk6]
  refine tkq 21 rfl (v := ?_) (.inl ⟨by rfl, ?_⟩) (by assumption) ?_
  rotate_left
  · intro W h; (try dsimp only at h); go_simp; try with_reducible rfl
  try simp only [Act.put,qk1,qk2,qk3,qk4,qk5,qk6]
  refine tkq 22 rfl (v := ?_) (.inl ⟨by rfl, ?_⟩) (by assumption) ?_
  rotate_left
  · intro W h; (try dsimp only at h); go_simp; try with_reducible rfl
  try simp only [Act.put,qk1,qk2,qk3,qk4,qk5,qk6]
  refine tkq 23 rfl (v := ?_) (.inl ⟨by rfl, ?_⟩) (by assumption) ?_
  rotate_left
  · intro W h; (try dsimp only at h); go_simp; try with_reducible rfl
  try simp only [Act.put,qk1,qk2,qk3,qk4,qk5,qk6]
  refine tkq 24 rfl (yieldsIf_load_mid (by rfl) 40 _ (by rfl) _ 0 (by rfl) (ptC x) _ (fun W h => h.2.2.2.2) Tryz.underlying40 rfl (infoPt x)) (by assumption) ?_
  try simp only [Act.put,qk1,qk2,qk3,qk4,qk5,qk6]
  refine tkq 25 rfl (yieldsIf_load_mid (by rfl) 40 _ (by rfl) _ 0 (by rfl) (ptC x) _ (fun W h => h.2.2.2.2) Tryz.underlying40 rfl (infoPt x)) (by assumption) ?_
  try simp only [Act.put,qk1,qk2,qk3,qk4,qk5,qk6]
  refine tkr 26 rfl (fun K hK => ?_)
  go_simp
  go_at_call 57
  refine (trOnly_any x _).mono ?_
  rintro e v2 ⟨rfl, hs⟩
  have HX := hD (HX.out.below hs)
  have HB := hD (bon HB.out hs)
  clear hs
  go_wp2_with fail
  have hSv2 : World.cell? v2 ⟨w.heap.size, 0, none⟩ = some (.int .i64 x.time) ∧ World.cell? v2 ⟨w.heap.size, 1, none⟩ = some (.int .i64 x.kind) ∧ World.cell? v2 ⟨w.heap.size, 3, none⟩ = some (.int .i64 x.slot) ∧ World.cell? v2 ⟨w.heap.size, 6, none⟩ = some (.string ⟨x.result.toArray⟩) ∧ World.rangeAt v2 w.heap.size 0 (ptC x) := ⟨HX.out.cells 0 _ rfl, HX.out.cells 1 _ rfl, HX.out.cells 3 _ rfl, HX.out.cells 6 _ rfl, HX.out.range⟩
  refine hK.out _ _ hSv2 (fun hHeld => ?_)
  clear hK K
  try simp only [Act.put,qk1,qk2,qk3,qk4,qk5,qk6]
  refine tkr 27 rfl (fun K hK => ?_)
  go_simp
  go_at_call 56
  refine ((HQ.out ▸ trEqual_any x (keptPt x) _ (Pt.below HOk.out HB.out) (kept_ok (Pt.below HOk.out HB.out)) HS.out (kept_sz HS.out))).mono ?_
  rintro e v3 ⟨rfl, hs⟩
  have HX := hD (HX.out.below hs)
  have HB := hD (bon HB.out hs)
  clear hs
  go_wp2_with fail
  have hSv3 : World.cell? v3 ⟨w.heap.size, 0, none⟩ = some (.int .i64 x.time) ∧ World.cell? v3 ⟨w.heap.size, 1, none⟩ = some (.int .i64 x.kind) ∧ World.cell? v3 ⟨w.heap.size, 3, none⟩ = some (.int .i64 x.slot) ∧ World.cell? v3 ⟨w.heap.size, 6, none⟩ = some (.string ⟨x.result.toArray⟩) ∧ World.rangeAt v3 w.heap.size 0 (ptC x) := ⟨HX.out.cells 0 _ rfl, HX.out.cells 1 _ rfl, HX.out.cells 3 _ rfl, HX.out.cells 6 _ rfl, HX.out.range⟩
  refine hK.out _ _ hSv3 (fun hHeld => ?_)
  clear hK K
  try simp only [Act.put,qk1,qk2,qk3,qk4,qk5,qk6]
  refine tkq 28 rfl (v := ?_) (.inl ⟨by rfl, ?_⟩) (by assumption) ?_
  rotate_left
  · intro W h; (try dsimp only at h); go_simp; try with_reducible rfl
  try simp only [Act.put,qk1,qk2,qk3,qk4,qk5,qk6]
  refine tkq 29 rfl (v := ?_) (.inl ⟨by rfl, ?_⟩) (by assumption) ?_
  rotate_left
  · intro W h; (try dsimp only at h); go_simp; try with_reducible rfl
  try simp only [Act.put,qk1,qk2,qk3,qk4,qk5,qk6]
  refine wpAnyH_done (by kernel_rfl) ?_ _
  refine NoPanic.normal ?_
  clear hS0 hSv2 hSv3 cl t1 t2 t3 t4 d1 d2 d3 d4
  generalize v3 = w3 at HX HB ⊢
  have c1 := HX.out.cells 1 _ rfl
  have c2 := HX.out.cells 2 _ rfl
  have c4 := HX.out.cells 4 _ rfl
  have c5 := HX.out.cells 5 _ rfl
  have cl := HX.out.lt
  by_cases hk : x.kind = 1
  case pos =>
   have HW : Hid (goodPt E x = (isCl x.who && (numOk x.number && opOk x.text))) := hD (by unfold goodPt; rw [HH.out, HQ.out]; simp [whoOk, kindPt, ofCl, hk])
   rw [hk] at c1
   clear hk HH HQ
   go_wp2_with fail
   refine (ofClient_any 1 w3).mono ?_
   rintro e wq ⟨rfl, hwq⟩
   replace hwq := hwq.symm
   subst hwq
   rw [show ofCl 1 = true from rfl]
   go_wp2_with fail
   refine (trClient_any x.who w3).mono ?_
   rintro e wq ⟨rfl, hwq⟩
   replace hwq := hwq.symm
   subst hwq
   cases hp : isCl x.who with
   | false =>
    have HF : Hid (goodPt E x = false) := hD (by rw [HW.out]; simp [hp])
    clear hp
    go_wp2_with fail
    go_ret
    exact ret_bl HF.out HB.out
   | true =>
    go_wp2_with fail
    refine (ofClient_any 1 w3).mono ?_
    rintro e wq ⟨rfl, hwq⟩
    replace hwq := hwq.symm
    subst hwq
    rw [show ofCl 1 = true from rfl]
    by_cases n1 : 1 ≤ x.number
    case neg =>
     have n1' : x.number < 1 := by omega
     have n1d : decide (1 ≤ x.number) = false := decide_eq_false n1
     have HF : Hid (goodPt E x = false) := hD (by rw [HW.out]; simp [numOk, n1])
     clear n1'
     go_wp2_with fail
     go_ret
     exact ret_bl HF.out HB.out
    have n1d : decide (1 ≤ x.number) = true := decide_eq_true n1
    by_cases n2 : x.number ≤ 1000000
    case neg =>
     have n2' : 1000000 < x.number := by omega
     have n2d : decide (x.number ≤ 1000000) = false := decide_eq_false n2
     have HF : Hid (goodPt E x = false) := hD (by rw [HW.out]; simp [numOk, n2])
     clear n2'
     go_wp2_with fail
     go_ret
     exact ret_bl HF.out HB.out
    have n2d : decide (x.number ≤ 1000000) = true := decide_eq_true n2
    go_wp2_with fail
    refine (isOp_any x.text w3 (HEnv.out.below HB.out) ht).mono ?_
    rintro e w4 ⟨rfl, hs⟩
    have HX := hD (HX.out.below hs)
    have HB := hD (bon HB.out hs)
    clear hs
    cases ho : opOk x.text with
    | false =>
     have HF : Hid (goodPt E x = false) := hD (by rw [HW.out]; simp [ho])
     clear ho
     go_wp2_with fail
     go_ret
     exact ret_bl HF.out HB.out
    | true =>
     have HF : Hid (goodPt E x = true) := hD (by rw [HW.out]; simp [hp, ho, numOk, n1, n2])
     clear hp ho n1 n2
     go_wp2_with fail
     go_ret
     exact ret_bl HF.out HB.out
  have nk1 := hk
  clear hk
  by_cases hk : x.kind = 2
  case pos =>
   have HW : Hid (goodPt E x = (isCl x.who && (numOk x.number))) := hD (by unfold goodPt; rw [HH.out, HQ.out]; simp [whoOk, kindPt, ofCl, hk])
   rw [hk] at c1
   clear hk HH HQ
   go_wp2_with fail
   refine (ofClient_any 2 w3).mono ?_
   rintro e wq ⟨rfl, hwq⟩
   replace hwq := hwq.symm
   subst hwq
   rw [show ofCl 2 = true from rfl]
   go_wp2_with fail
   refine (trClient_any x.who w3).mono ?_
   rintro e wq ⟨rfl, hwq⟩
   replace hwq := hwq.symm
   subst hwq
   cases hp : isCl x.who with
   | false =>
    have HF : Hid (goodPt E x = false) := hD (by rw [HW.out]; simp [hp])
    clear hp
    go_wp2_with fail
    go_ret
    exact ret_bl HF.out HB.out
   | true =>
    go_wp2_with fail
    refine (ofClient_any 2 w3).mono ?_
    rintro e wq ⟨rfl, hwq⟩
    replace hwq := hwq.symm
    subst hwq
    rw [show ofCl 2 = true from rfl]
    by_cases n1 : 1 ≤ x.number
    case neg =>
     have n1' : x.number < 1 := by omega
     have n1d : decide (1 ≤ x.number) = false := decide_eq_false n1
     have HF : Hid (goodPt E x = false) := hD (by rw [HW.out]; simp [numOk, n1])
     clear n1'
     go_wp2_with fail
     go_ret
     exact ret_bl HF.out HB.out
    have n1d : decide (1 ≤ x.number) = true := decide_eq_true n1
    by_cases n2 : x.number ≤ 1000000
    case neg =>
     have n2' : 1000000 < x.number := by omega
     have n2d : decide (x.number ≤ 1000000) = false := decide_eq_false n2
     have HF : Hid (goodPt E x = false) := hD (by rw [HW.out]; simp [numOk, n2])
     clear n2'
     go_wp2_with fail
     go_ret
     exact ret_bl HF.out HB.out
    have n2d : decide (x.number ≤ 1000000) = true := decide_eq_true n2
    have HF : Hid (goodPt E x = true) := hD (by rw [HW.out]; simp [hp, numOk, n1, n2])
    go_wp2_with fail
    go_ret
    exact ret_bl HF.out HB.out
  have nk2 := hk
  clear hk
  by_cases hk : x.kind = 3
  case pos =>
   have HW : Hid (goodPt E x = (isCl x.who && (E x.text))) := hD (by unfold goodPt; rw [HH.out, HQ.out]; simp [whoOk, kindPt, ofCl, hk])
   have HE := hD (HE.out (by first | exact .inl hk | exact .inr hk))
   rw [hk] at c1
   clear hk HH HQ
   go_wp2_with fail
   refine (ofClient_any 3 w3).mono ?_
   rintro e wq ⟨rfl, hwq⟩
   replace hwq := hwq.symm
   subst hwq
   rw [show ofCl 3 = true from rfl]
   go_wp2_with fail
   refine (trClient_any x.who w3).mono ?_
   rintro e wq ⟨rfl, hwq⟩
   replace hwq := hwq.symm
   subst hwq
   cases hp : isCl x.who with
   | false =>
    have HF : Hid (goodPt E x = false) := hD (by rw [HW.out]; simp [hp])
    clear hp
    go_wp2_with fail
    go_ret
    exact ret_bl HF.out HB.out
   | true =>
    go_wp2_with fail
    refine (ofClient_any 3 w3).mono ?_
    rintro e wq ⟨rfl, hwq⟩
    replace hwq := hwq.symm
    subst hwq
    rw [show ofCl 3 = true from rfl]
    go_wp2_with fail
    refine (HE.out w3 HB.out).mono ?_
    rintro e w4 ⟨rfl, hs⟩
    have HX := hD (HX.out.below hs)
    have HB := hD (bon HB.out hs)
    clear hs
    cases ho : E x.text with
    | false =>
     have HF : Hid (goodPt E x = false) := hD (by rw [HW.out]; simp [ho])
     clear ho
     go_wp2_with fail
     go_ret
     exact ret_bl HF.out HB.out
    | true =>
     have HF : Hid (goodPt E x = true) := hD (by rw [HW.out]; simp [hp, ho])
     clear hp ho
     go_wp2_with fail
     go_ret
     exact ret_bl HF.out HB.out
  have nk3 := hk
  clear hk
  by_cases hk : x.kind = 4
  case pos =>
   have HW : Hid (goodPt E x = (isSv x.who && (E x.text))) := hD (by unfold goodPt; rw [HH.out, HQ.out]; simp [whoOk, kindPt, ofCl, hk])
   have HE := hD (HE.out (by first | exact .inl hk | exact .inr hk))
   rw [hk] at c1
   clear hk HH HQ
   go_wp2_with fail
   refine (ofClient_any 4 w3).mono ?_
   rintro e wq ⟨rfl, hwq⟩
   replace hwq := hwq.symm
   subst hwq
   rw [show ofCl 4 = false from rfl]
   go_wp2_with fail
   refine (ofClient_any 4 w3).mono ?_
   rintro e wq ⟨rfl, hwq⟩
   replace hwq := hwq.symm
   subst hwq
   rw [show ofCl 4 = false from rfl]
   go_wp2_with fail
   refine (trServer_any x.who w3).mono ?_
   rintro e wq ⟨rfl, hwq⟩
   replace hwq := hwq.symm
   subst hwq
   cases hp : isSv x.who with
   | false =>
    have HF : Hid (goodPt E x = false) := hD (by rw [HW.out]; simp [hp])
    clear hp
    go_wp2_with fail
    go_ret
    exact ret_bl HF.out HB.out
   | true =>
    go_wp2_with fail
    refine (HE.out w3 HB.out).mono ?_
    rintro e w4 ⟨rfl, hs⟩
    have HX := hD (HX.out.below hs)
    have HB := hD (bon HB.out hs)
    clear hs
    cases ho : E x.text with
    | false =>
     have HF : Hid (goodPt E x = false) := hD (by rw [HW.out]; simp [ho])
     clear ho
     go_wp2_with fail
     go_ret
     exact ret_bl HF.out HB.out
    | true =>
     have HF : Hid (goodPt E x = true) := hD (by rw [HW.out]; simp [hp, ho])
     clear hp ho
     go_wp2_with fail
     go_ret
     exact ret_bl HF.out HB.out
  have nk4 := hk
  clear hk
  by_cases hk : x.kind = 5
  case pos =>
   have HW : Hid (goodPt E x = (isSv x.who && (isCl x.number && opOk x.text))) := hD (by unfold goodPt; rw [HH.out, HQ.out]; simp [whoOk, kindPt, ofCl, hk])
   rw [hk] at c1
   clear hk HH HQ
   go_wp2_with fail
   refine (ofClient_any 5 w3).mono ?_
   rintro e wq ⟨rfl, hwq⟩
   replace hwq := hwq.symm
   subst hwq
   rw [show ofCl 5 = false from rfl]
   go_wp2_with fail
   refine (ofClient_any 5 w3).mono ?_
   rintro e wq ⟨rfl, hwq⟩
   replace hwq := hwq.symm
   subst hwq
   rw [show ofCl 5 = false from rfl]
   go_wp2_with fail
   refine (trServer_any x.who w3).mono ?_
   rintro e wq ⟨rfl, hwq⟩
   replace hwq := hwq.symm
   subst hwq
   cases hp : isSv x.who with
   | false =>
    have HF : Hid (goodPt E x = false) := hD (by rw [HW.out]; simp [hp])
    clear hp
    go_wp2_with fail
    go_ret
    exact ret_bl HF.out HB.out
   | true =>
    go_wp2_with fail
    refine (trClient_any x.number w3).mono ?_
    rintro e wq ⟨rfl, hwq⟩
    replace hwq := hwq.symm
    subst hwq
    cases hn : isCl x.number with
    | false =>
     have HF : Hid (goodPt E x = false) := hD (by rw [HW.out]; simp [hn])
     clear hn
     go_wp2_with fail
     go_ret
     exact ret_bl HF.out HB.out
    | true =>
     go_wp2_with fail
     refine (isOp_any x.text w3 (HEnv.out.below HB.out) ht).mono ?_
     rintro e w4 ⟨rfl, hs⟩
     have HX := hD (HX.out.below hs)
     have HB := hD (bon HB.out hs)
     clear hs
     cases ho : opOk x.text with
     | false =>
      have HF : Hid (goodPt E x = false) := hD (by rw [HW.out]; simp [ho])
      clear ho
      go_wp2_with fail
      go_ret
      exact ret_bl HF.out HB.out
     | true =>
      have HF : Hid (goodPt E x = true) := hD (by rw [HW.out]; simp [hp, hn, ho])
      clear hp hn ho
      go_wp2_with fail
      go_ret
      exact ret_bl HF.out HB.out
  have nk5 := hk
  clear hk
  by_cases hk : x.kind = 6
  case pos =>
   have HW : Hid (goodPt E x = (isSv x.who && (decide (vMs x.msg = 0) && decide (x.msg.src = x.who)))) := hD (by unfold goodPt; rw [HH.out, HQ.out]; simp [whoOk, kindPt, ofCl, hk])
   rw [hk] at c1
   clear hk HH HQ
   go_wp2_with fail
   refine (ofClient_any 6 w3).mono ?_
   rintro e wq ⟨rfl, hwq⟩
   replace hwq := hwq.symm
   subst hwq
   rw [show ofCl 6 = false from rfl]
   go_wp2_with fail
   refine (ofClient_any 6 w3).mono ?_
   rintro e wq ⟨rfl, hwq⟩
   replace hwq := hwq.symm
   subst hwq
   rw [show ofCl 6 = false from rfl]
   go_wp2_with fail
   refine (trServer_any x.who w3).mono ?_
   rintro e wq ⟨rfl, hwq⟩
   replace hwq := hwq.symm
   subst hwq
   cases hp : isSv x.who with
   | false =>
    have HF : Hid (goodPt E x = false) := hD (by rw [HW.out]; simp [hp])
    clear hp
    go_wp2_with fail
    go_ret
    exact ret_bl HF.out HB.out
   | true =>
    have c8 := HX.out.cells 8 _ rfl
    go_wp2_with (refine wpList_load_mid rfl 38 _ rfl w.heap.size 7 rfl (msC x.msg) _ HX.out.msg Tryz.underlying38 rfl (infoMsn x.msg) ?_)
    clear c1 c2 c4 c5 c8 cl
    refine (valid_any x.msg w3 (Ms.below HOk.out.2 HB.out) (MsFew.of_sz (by have := HS.out; omega))).mono ?_
    rintro e w4 ⟨rfl, hs⟩
    have HX := hD (HX.out.below hs)
    have HB := hD (bon HB.out hs)
    clear hs
    have c2 := HX.out.cells 2 _ rfl
    have c8 := HX.out.cells 8 _ rfl
    have cl := HX.out.lt
    by_cases hv : vMs x.msg = 0
    case neg =>
     have v1 : (vMs x.msg == 0) = false := by simpa using hv
     have HF : Hid (goodPt E x = false) := hD (by rw [HW.out]; simp [hv])
     clear hv
     go_wp2_with fail
     go_ret
     exact ret_bl HF.out HB.out
    have v1 : (vMs x.msg == 0) = true := by simpa using hv
    by_cases hs : x.msg.src = x.who
    case neg =>
     have s1 : (x.msg.src == x.who) = false := by simpa using hs
     have HF : Hid (goodPt E x = false) := hD (by rw [HW.out]; simp [hs])
     clear hs
     go_wp2_with fail
     go_ret
     exact ret_bl HF.out HB.out
    have s1 : (x.msg.src == x.who) = true := by simpa using hs
    have HF : Hid (goodPt E x = true) := hD (by rw [HW.out]; simp [hp, hv, hs])
    clear hp hv hs
    go_wp2_with fail
    go_ret
    exact ret_bl HF.out HB.out
  have nk6 := hk
  clear hk
  by_cases hk : x.kind = 7
  case pos =>
   have HW : Hid (goodPt E x = (isSv x.who && (true))) := hD (by unfold goodPt; rw [HH.out, HQ.out]; simp [whoOk, kindPt, ofCl, hk])
   rw [hk] at c1
   clear hk HH HQ
   go_wp2_with fail
   refine (ofClient_any 7 w3).mono ?_
   rintro e wq ⟨rfl, hwq⟩
   replace hwq := hwq.symm
   subst hwq
   rw [show ofCl 7 = false from rfl]
   go_wp2_with fail
   refine (ofClient_any 7 w3).mono ?_
   rintro e wq ⟨rfl, hwq⟩
   replace hwq := hwq.symm
   subst hwq
   rw [show ofCl 7 = false from rfl]
   go_wp2_with fail
   refine (trServer_any x.who w3).mono ?_
   rintro e wq ⟨rfl, hwq⟩
   replace hwq := hwq.symm
   subst hwq
   cases hp : isSv x.who with
   | false =>
    have HF : Hid (goodPt E x = false) := hD (by rw [HW.out]; simp [hp])
    clear hp
    go_wp2_with fail
    go_ret
    exact ret_bl HF.out HB.out
   | true =>
    have HF : Hid (goodPt E x = true) := hD (by rw [HW.out]; simp [hp])
    clear hp
    go_wp2_with fail
    go_ret
    exact ret_bl HF.out HB.out
  have nk7 := hk
  clear hk
  by_cases hk : x.kind = 8
  case pos =>
   have HW : Hid (goodPt E x = (isSv x.who && (true))) := hD (by unfold goodPt; rw [HH.out, HQ.out]; simp [whoOk, kindPt, ofCl, hk])
   rw [hk] at c1
   clear hk HH HQ
   go_wp2_with fail
   refine (ofClient_any 8 w3).mono ?_
   rintro e wq ⟨rfl, hwq⟩
   replace hwq := hwq.symm
   subst hwq
   rw [show ofCl 8 = false from rfl]
   go_wp2_with fail
   refine (ofClient_any 8 w3).mono ?_
   rintro e wq ⟨rfl, hwq⟩
   replace hwq := hwq.symm
   subst hwq
   rw [show ofCl 8 = false from rfl]
   go_wp2_with fail
   refine (trServer_any x.who w3).mono ?_
   rintro e wq ⟨rfl, hwq⟩
   replace hwq := hwq.symm
   subst hwq
   cases hp : isSv x.who with
   | false =>
    have HF : Hid (goodPt E x = false) := hD (by rw [HW.out]; simp [hp])
    clear hp
    go_wp2_with fail
    go_ret
    exact ret_bl HF.out HB.out
   | true =>
    have HF : Hid (goodPt E x = true) := hD (by rw [HW.out]; simp [hp])
    clear hp
    go_wp2_with fail
    go_ret
    exact ret_bl HF.out HB.out
  have nk8 := hk
  clear hk
  exfalso
  have h := HH.out
  unfold headOk at h
  simp only [Bool.and_eq_true, decide_eq_true_eq] at h
  omega
end Go.Proofs.YtepbbaifpckcpaaGreatDoor
