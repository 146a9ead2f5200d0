/- The contract of store.formOf. -/
import Derived.Test.YtepbbaifpckcpaaGreatDoorVPl
import Derived.Test.YtepbbaifpckcpaaGreatDoorVSx
namespace Go.Proofs.YtepbbaifpckcpaaGreatDoor
open Go.RowKit
open Go.Maps (Keyed)
theorem forms_at (k : Nat) (h1 : 1 ≤ k) (h6 : k ≤ 6) (z : DataW Unit) : formsD.atKey (.int .i64 (k : Int)) z = .agg [.lit (.string (opWord k)), .lit (.bool (hasKey k)), .lit (.bool (hasOld k)), .lit (.bool (hasNew k))] ∧ Maps.has formsD (.int .i64 (k : Int)) = true := by
 have : k = 1 ∨ k = 2 ∨ k = 3 ∨ k = 4 ∨ k = 5 ∨ k = 6 := by omega
 rcases this with rfl | rfl | rfl | rfl | rfl | rfl <;> exact ⟨rfl, rfl⟩
theorem formR_is {v : Value} {s : List UInt8} {a b c : Bool} {ps : List MemPlace} (h : formR v = some (.agg [.lit (.string s), .lit (.bool a), .lit (.bool b), .lit (.bool c)], ps)) : v = .agg #[.string ⟨s.toArray⟩, .bool a, .bool b, .bool c] := by
 obtain ⟨⟨s', a', b', c'⟩, rfl⟩ := formR_inv h
 simp only [frmV, formR, Option.some.injEq, Prod.mk.injEq, DataW.agg.injEq, List.cons.injEq, DataW.lit.injEq, Lit.string.injEq, Lit.bool.injEq, and_true] at h
 obtain ⟨⟨rfl, rfl, rfl, rfl⟩, _⟩ := h
 simp only [frmV, str_mk]
theorem zero_form (w : World) : (zeroValue 185).run Tryz.prog w = .ok (.agg #[.string ⟨#[]⟩, .bool false, .bool false, .bool false]) w := by kernel_rfl
theorem forms_look {w : World} {b : Nat} (h : w.ownsMap Tryz.prog 3 formR b 6 formsD) (k : Nat) (h1 : 1 ≤ k) (h6 : k ≤ 6) : (Instr.lookup 182 (.map (some b)) (.int .i64 (k : Int)) true).run Tryz.prog w = .ok (.tuple #[.agg #[.string ⟨(opWord k).toArray⟩, .bool (hasKey k), .bool (hasOld k), .bool (hasNew k)], .bool true]) w := by
 obtain ⟨v, ps, hrun, hv⟩ := h.look_ok formsL Tryz.underlying182 (zero_form w) (R := formR) (zd := .agg [.lit (.string []), .lit (.bool false), .lit (.bool false), .lit (.bool false)]) (zp := []) rfl (forms_key k (by
  have : k = 1 ∨ k = 2 ∨ k = 3 ∨ k = 4 ∨ k = 5 ∨ k = 6 := by omega
  rcases this with rfl | rfl | rfl | rfl | rfl | rfl <;> decide))
 obtain ⟨e1, e2⟩ := forms_at k h1 h6 (.agg [.lit (.string []), .lit (.bool false), .lit (.bool false), .lit (.bool false)])
 rw [e1] at hv
 rw [hrun, e2, formR_is hv]
set_option maxRecDepth 100000 in
set_option maxHeartbeats 4000000 in
theorem formOf_any (k : Nat) (h1 : 1 ≤ k) (h6 : k ≤ 6) (key old new : ByteArray) (w : World) (s1 : key.size ≤ 9223372036854775807) (s2 : old.size ≤ 9223372036854775807) (s3 : new.size ≤ 9223372036854775807) :
    Calls Tryz.prog 202 #[.agg #[.int .i64 (k : Int), .string key, .string old, .string new]] w fun e w' => e = .returned (.tuple #[.agg #[.string ⟨(opWord k).toArray⟩, .bool (hasKey k), .bool (hasOld k), .bool (hasNew k)], .bool (opOkF k key.data.toList old.data.toList new.data.toList)]) ∧ Below w.heap.size w w' := by
 have HO := hD ((Vr.new w [.int .i64 (k : Int), .string key, .string old, .string new] 124).below (below_new (w.alloc (.cells #[.int .i64 (k : Int), .string key, .string old, .string new] 124)) (.cells #[.string ⟨#[]⟩, .bool false, .bool false, .bool false] 185)))
 have HR := hD (Vr.new' (w.alloc (.cells #[.int .i64 (k : Int), .string key, .string old, .string new] 124)) [.string ⟨#[]⟩, .bool false, .bool false, .bool false] 185 (b := w.heap.size + 1) (by simp))
 have HB := hD (bon (below_new w (.cells #[.int .i64 (k : Int), .string key, .string old, .string new] 124)) (below_new (w.alloc (.cells #[.int .i64 (k : Int), .string key, .string old, .string new] 124)) (.cells #[.string ⟨#[]⟩, .bool false, .bool false, .bool false] 185)))
 go_enter Tryz.func202, Tryz.ntmps202
 go_wp2_with fail
 generalize (w.alloc (.cells #[.int .i64 (k : Int), .string key, .string old, .string new] 124)).alloc (.cells #[.string ⟨#[]⟩, .bool false, .bool false, .bool false] 185) = w1 at HO HR HB ⊢
 refine wp_region_noPanic ?_
 have HO := hD (HO.out.below (Below.refl _ _).drew)
 have HR := hD (HR.out.below (Below.refl _ _).drew)
 have HB := hD (HB.out.drew)
 generalize hv : w1.drew = v0 at HO HR HB
 have hS0 : World.cell? v0 ⟨w.heap.size, 0, none⟩ = some (.int .i64 (k : Int)) := HO.out.cells 0 _ rfl
 refine wp_region_held_drew (S := fun W => World.cell? W ⟨w.heap.size, 0, none⟩ = some (.int .i64 (k : Int))) (by kernel_rfl) (by rw [hv]; exact hS0) (fun hHeld => ?_)
 rw [hv] at hHeld ⊢
 clear hv
 refine tkq 1 rfl (v := ?_) (.inl ⟨by rfl, ?_⟩) (by assumption) ?_
 rotate_left
 · intro W h; (try dsimp only at h); go_simp; try with_reducible rfl
 try simp only [Act.put,qk1,qk2,qk3,qk4,qk5,qk6]
 refine tkq 2 rfl (v := ?_) (.inl ⟨by rfl, ?_⟩) (by assumption) ?_
 rotate_left
 · intro W h; (try dsimp only at h); go_simp; try with_reducible rfl
 try simp only [Act.put,qk1,qk2,qk3,qk4,qk5,qk6]
 refine wpAnyH_ready (rs := [0, 7]) (by kernel_rfl) (by simp) ?_
 refine AllReadyH.cons (o := _) rfl (fun K hK => ?_) (AllReadyH.cons (o := _) rfl (fun K hK => ?_) AllReadyH.nil)
 · go_simp
   go_at_call 137
   refine (forms_any _).mono ?_
   rintro e v1 ⟨bm, rfl, hown, hs, hbm⟩
   go_wp2_with fail
   have HM := hD hown
   have HO := hD (HO.out.below hs)
   have HR := hD (HR.out.below hs)
   have HB := hD (bon HB.out hs)
   clear hown hbm hs
   refine hK.out _ _ (HO.out.cells 0 _ rfl) (fun hHeld => ?_)
   clear hK K
   try simp only [Act.put,qk1,qk2,qk3,qk4,qk5,qk6]
   refine wpAnyH_strong (S' := fun W => World.cell? W ⟨w.heap.size, 0, none⟩ = some (.int .i64 (k : Int)) ∧ (Instr.lookup 182 (.map (some bm)) (.int .i64 (k : Int)) true).run Tryz.prog W = .ok (.tuple #[.agg #[.string ⟨(opWord k).toArray⟩, .bool (hasKey k), .bool (hasOld k), .bool (hasNew k)], .bool true]) W) (fun _ h => h.1) _ _ _ _ ?_
   have hS2 : World.cell? v1 ⟨w.heap.size, 0, none⟩ = some (.int .i64 (k : Int)) ∧ (Instr.lookup 182 (.map (some bm)) (.int .i64 (k : Int)) true).run Tryz.prog v1 = .ok (.tuple #[.agg #[.string ⟨(opWord k).toArray⟩, .bool (hasKey k), .bool (hasOld k), .bool (hasNew k)], .bool true]) v1 := ⟨HO.out.cells 0 _ rfl, forms_look HM.out k h1 h6⟩
   clear hS0
   refine tkq 3 rfl (v := ?_) (.inl ⟨by rfl, ?_⟩) (by assumption) ?_
   rotate_left
   · intro W h; (try dsimp only at h); go_simp; try with_reducible rfl
   try simp only [Act.put,qk1,qk2,qk3,qk4,qk5,qk6]
   refine tkq 4 rfl (v := ?_) (.inl ⟨by rfl, ?_⟩) (by assumption) ?_
   rotate_left
   · intro W h; (try dsimp only at h); go_simp; try with_reducible rfl
   try simp only [Act.put,qk1,qk2,qk3,qk4,qk5,qk6]
   refine tkq 5 rfl (v := ?_) (.inl ⟨by rfl, ?_⟩) (by assumption) ?_
   rotate_left
   · intro W h; (try dsimp only at h); go_simp; try with_reducible rfl
   try simp only [Act.put,qk1,qk2,qk3,qk4,qk5,qk6]
   refine tkq 6 rfl (v := ?_) (.inl ⟨by rfl, ?_⟩) (by assumption) ?_
   rotate_left
   · intro W h; (try dsimp only at h); go_simp; try with_reducible rfl
   try simp only [Act.put,qk1,qk2,qk3,qk4,qk5,qk6]
   refine tkr 7 rfl (fun K hK => ?_)
   go_simp
   have hs := below_new v1 (.cells #[.string ⟨#[]⟩, .bool false, .bool false, .bool false] 185)
   have HVF := hD (Vr.new v1 [.string ⟨#[]⟩, .bool false, .bool false, .bool false] 185)
   have hgf : w.heap.size + 2 ≤ v1.heap.size := by have := HR.out.lt; omega
   have HO := hD (HO.out.below hs)
   have HR := hD (HR.out.below hs)
   have HB := hD (bon HB.out hs)
   have HNe : Hid (bm ≠ v1.heap.size) := hD (Nat.ne_of_lt HM.out.lt)
   have HM := hD (ownsMap_below HM.out hs)
   clear hs
   generalize v1.alloc (.cells #[.string ⟨#[]⟩, .bool false, .bool false, .bool false] 185) = v2 at HO HR HB HVF HM ⊢
   generalize v1.heap.size = b4 at HVF hgf HNe ⊢
   have hS3 : World.cell? v2 ⟨w.heap.size, 0, none⟩ = some (.int .i64 (k : Int)) ∧ (Instr.lookup 182 (.map (some bm)) (.int .i64 (k : Int)) true).run Tryz.prog v2 = .ok (.tuple #[.agg #[.string ⟨(opWord k).toArray⟩, .bool (hasKey k), .bool (hasOld k), .bool (hasNew k)], .bool true]) v2 := ⟨HO.out.cells 0 _ rfl, forms_look HM.out k h1 h6⟩
   refine hK.out _ _ hS3 (fun hHeld => ?_)
   clear hK K
   try simp only [Act.put,qk1,qk2,qk3,qk4,qk5,qk6]
   refine tkr 8 rfl (fun K hK => ?_)
   have e0 := HVF.out.cells 0 _ rfl
   have e1 := HVF.out.cells 1 _ rfl
   have e2 := HVF.out.cells 2 _ rfl
   have e3 := HVF.out.cells 3 _ rfl
   have f0 := HVF.out.free 0 (by simp)
   have f1 := HVF.out.free 1 (by simp)
   have f2 := HVF.out.free 2 (by simp)
   have f3 := HVF.out.free 3 (by simp)
   have lz := HVF.out.lt
   go_simp
   change K _ (v2.setCells b4 0 [.string ⟨(opWord k).toArray⟩, .bool (hasKey k), .bool (hasOld k), .bool (hasNew k)])
   have HB := hD (below_gr HB.out (grown_vs (b := b4) [.string ⟨(opWord k).toArray⟩, .bool (hasKey k), .bool (hasOld k), .bool (hasNew k)]) (by omega))
   have HR := hD (HR.out.grown (grown_vs (b := b4) [.string ⟨(opWord k).toArray⟩, .bool (hasKey k), .bool (hasOld k), .bool (hasNew k)]) (by omega))
   have HO := hD (HO.out.grown (grown_vs (b := b4) [.string ⟨(opWord k).toArray⟩, .bool (hasKey k), .bool (hasOld k), .bool (hasNew k)]) (by omega))
   have HM := hD (HM.out.kept (grown_vs (b := b4) [.string ⟨(opWord k).toArray⟩, .bool (hasKey k), .bool (hasOld k), .bool (hasNew k)]) (by simpa using HNe.out))
   have HVF := hD (HVF.out.sets [.string ⟨(opWord k).toArray⟩, .bool (hasKey k), .bool (hasOld k), .bool (hasNew k)] rfl)
   clear e0 e1 e2 e3 f0 f1 f2 f3 lz
   generalize v2.setCells b4 0 [.string ⟨(opWord k).toArray⟩, .bool (hasKey k), .bool (hasOld k), .bool (hasNew k)] = v3 at HB HR HO HM HVF ⊢
   have hS4 : World.cell? v3 ⟨w.heap.size, 0, none⟩ = some (.int .i64 (k : Int)) ∧ (Instr.lookup 182 (.map (some bm)) (.int .i64 (k : Int)) true).run Tryz.prog v3 = .ok (.tuple #[.agg #[.string ⟨(opWord k).toArray⟩, .bool (hasKey k), .bool (hasOld k), .bool (hasNew k)], .bool true]) v3 := ⟨HO.out.cells 0 _ rfl, forms_look HM.out k h1 h6⟩
   refine hK.out _ _ hS4 (fun hHeld => ?_)
   clear hK K
   try simp only [Act.put,qk1,qk2,qk3,qk4,qk5,qk6]
   refine tkr 9 rfl (fun K hK => ?_)
   go_simp
   refine hK.out _ _ hS4 (fun hHeld => ?_)
   clear hK K
   try simp only [Act.put,qk1,qk2,qk3,qk4,qk5,qk6]
   refine wpAnyH_done (by kernel_rfl) ?_ _
   refine NoPanic.normal ?_
   clear hS4 hS2 HM HNe
   cases hk1 : fieldOk key.data.toList (hasKey k) with
   | false =>
    have hQ : opOkF k key.data.toList old.data.toList new.data.toList = false := by unfold opOkF; rw [hk1]; rfl
    go_wp2_with fail
    refine wp_region_noPanic ?_
    have HO := hD (HO.out.below (Below.refl _ _).drew)
    have HR := hD (HR.out.below (Below.refl _ _).drew)
    have HVF := hD (HVF.out.below (Below.refl _ _).drew)
    have HB := hD (HB.out.drew)
    generalize hv : v3.drew = v4 at HO HR HVF HB
    have hS5 : World.cell? v4 ⟨w.heap.size, 1, none⟩ = some (.string key) ∧ World.cell? v4 ⟨w.heap.size, 2, none⟩ = some (.string old) ∧ World.cell? v4 ⟨w.heap.size, 3, none⟩ = some (.string new) ∧ World.cell? v4 ⟨b4, 0, none⟩ = some (.string ⟨(opWord k).toArray⟩) ∧ World.cell? v4 ⟨b4, 1, none⟩ = some (.bool (hasKey k)) ∧ World.cell? v4 ⟨b4, 2, none⟩ = some (.bool (hasOld k)) ∧ World.cell? v4 ⟨b4, 3, none⟩ = some (.bool (hasNew k)) := ⟨HO.out.cells 1 _ rfl, HO.out.cells 2 _ rfl, HO.out.cells 3 _ rfl, HVF.out.cells 0 _ rfl, HVF.out.cells 1 _ rfl, HVF.out.cells 2 _ rfl, HVF.out.cells 3 _ rfl⟩
    refine wp_region_held_drew (S := fun W => World.cell? W ⟨w.heap.size, 1, none⟩ = some (.string key) ∧ World.cell? W ⟨w.heap.size, 2, none⟩ = some (.string old) ∧ World.cell? W ⟨w.heap.size, 3, none⟩ = some (.string new) ∧ World.cell? W ⟨b4, 0, none⟩ = some (.string ⟨(opWord k).toArray⟩) ∧ World.cell? W ⟨b4, 1, none⟩ = some (.bool (hasKey k)) ∧ World.cell? W ⟨b4, 2, none⟩ = some (.bool (hasOld k)) ∧ World.cell? W ⟨b4, 3, none⟩ = some (.bool (hasNew k))) (by kernel_rfl) (by rw [hv]; exact hS5) (fun hHeld => ?_)
    rw [hv] at hHeld ⊢
    clear hv
    refine tkq 0 rfl (v := ?_) (.inl ⟨by rfl, ?_⟩) (by assumption) ?_
    rotate_left
    · intro W h; (try dsimp only at h); go_simp; try with_reducible rfl
    try simp only [Act.put,qk1,qk2,qk3,qk4,qk6]
    refine tkq 1 rfl (v := ?_) (.inl ⟨by rfl, ?_⟩) (by assumption) ?_
    rotate_left
    · intro W h; (try dsimp only at h); go_simp; try with_reducible rfl
    try simp only [Act.put,qk1,qk2,qk3,qk4,qk5,qk6]
    refine tkq 2 rfl (v := ?_) (.inl ⟨by rfl, ?_⟩) (by assumption) ?_
    rotate_left
    · intro W h; (try dsimp only at h); go_simp; try with_reducible rfl
    try simp only [Act.put,qk1,qk2,qk3,qk4,qk5,qk6]
    refine tkq 3 rfl (v := ?_) (.inl ⟨by rfl, ?_⟩) (by assumption) ?_
    rotate_left
    · intro W h; (try dsimp only at h); go_simp; try with_reducible rfl
    try simp only [Act.put,qk1,qk2,qk3,qk4,qk5,qk6]
    refine tkq 4 rfl (v := ?_) (.inl ⟨by rfl, ?_⟩) (by assumption) ?_
    rotate_left
    · intro W h; (try dsimp only at h); go_simp; try with_reducible rfl
    try simp only [Act.put,qk1,qk2,qk3,qk4,qk5,qk6]
    refine tkq 5 rfl (v := ?_) (.inl ⟨by rfl, ?_⟩) (by assumption) ?_
    rotate_left
    · intro W h; (try dsimp only at h); go_simp; try with_reducible rfl
    try simp only [Act.put,qk1,qk2,qk3,qk4,qk5,qk6]
    refine tkq 6 rfl (v := ?_) (.inl ⟨by rfl, ?_⟩) (by assumption) ?_
    rotate_left
    · intro W h; (try dsimp only at h); go_simp; try with_reducible rfl
    try simp only [Act.put,qk1,qk2,qk3,qk4,qk5,qk6]
    refine tkr 7 rfl (fun K hK => ?_)
    go_simp
    go_at_call 244
    refine (field_any key (hasKey k) _ s1).mono ?_
    rw [hk1]
    rintro e wq ⟨rfl, hwq⟩
    replace hwq := hwq.symm
    subst hwq
    go_wp2_with fail
    refine hK.out _ _ (by assumption) (fun hHeld => ?_)
    clear hK K
    try simp only [Act.put,qk1,qk2,qk3,qk4,qk5,qk6]
    refine tkq 8 rfl (v := ?_) (.inl ⟨by rfl, ?_⟩) (by assumption) ?_
    rotate_left
    · intro W h; (try dsimp only at h); go_simp; try with_reducible rfl
    try simp only [Act.put,qk1,qk2,qk3,qk4,qk5,qk6]
    refine tkq 9 rfl (v := ?_) (.inl ⟨by rfl, ?_⟩) (by assumption) ?_
    rotate_left
    · intro W h; (try dsimp only at h); go_simp; try with_reducible rfl
    try simp only [Act.put,qk1,qk2,qk3,qk4,qk5,qk6]
    refine tkq 10 rfl (v := undef) (.inr ⟨by rfl, rfl⟩) (by assumption) ?_
    try simp only [Act.put,qk1,qk2,qk3,qk4,qk5,qk6]
    refine tkq 11 rfl (v := undef) (.inr ⟨by rfl, rfl⟩) (by assumption) ?_
    try simp only [Act.put,qk1,qk2,qk3,qk4,qk5,qk6]
    refine tkq 12 rfl (v := undef) (.inr ⟨by rfl, rfl⟩) (by assumption) ?_
    try simp only [Act.put,qk1,qk2,qk3,qk4,qk5,qk6]
    refine tkq 13 rfl (v := undef) (.inr ⟨by rfl, rfl⟩) (by assumption) ?_
    try simp only [Act.put,qk1,qk2,qk3,qk4,qk5,qk6]
    refine tkq 14 rfl (v := undef) (.inr ⟨by rfl, rfl⟩) (by assumption) ?_
    try simp only [Act.put,qk1,qk2,qk3,qk4,qk5,qk6]
    refine tkq 15 rfl (v := ?_) (.inl ⟨by rfl, ?_⟩) (by assumption) ?_
    rotate_left
    · intro W h; (try dsimp only at h); go_simp; try with_reducible rfl
    try simp only [Act.put,qk1,qk2,qk3,qk4,qk5,qk6]
    refine tkq 16 rfl (v := ?_) (.inl ⟨by rfl, ?_⟩) (by assumption) ?_
    rotate_left
    · intro W h; (try dsimp only at h); go_simp; try with_reducible rfl
    try simp only [Act.put,qk1,qk2,qk3,qk4,qk5,qk6]
    refine tkq 17 rfl (v := undef) (.inr ⟨by rfl, rfl⟩) (by assumption) ?_
    try simp only [Act.put,qk1,qk2,qk3,qk4,qk5,qk6]
    refine tkq 18 rfl (v := undef) (.inr ⟨by rfl, rfl⟩) (by assumption) ?_
    try simp only [Act.put,qk1,qk2,qk3,qk4,qk5,qk6]
    refine tkq 19 rfl (v := undef) (.inr ⟨by rfl, rfl⟩) (by assumption) ?_
    try simp only [Act.put,qk1,qk2,qk3,qk4,qk5,qk6]
    refine tkq 20 rfl (v := undef) (.inr ⟨by rfl, rfl⟩) (by assumption) ?_
    try simp only [Act.put,qk1,qk2,qk3,qk4,qk5,qk6]
    refine tkq 21 rfl (v := undef) (.inr ⟨by rfl, rfl⟩) (by assumption) ?_
    try simp only [Act.put,qk1,qk2,qk3,qk4,qk5,qk6]
    refine tkq 22 rfl (v := ?_) (.inl ⟨by rfl, ?_⟩) (by assumption) ?_
    rotate_left
    · intro W h; (try dsimp only at h); go_simp; try with_reducible rfl
    try simp only [Act.put,qk1,qk2,qk3,qk4,qk5,qk6]
    refine tkr 23 rfl (fun K hK => ?_)
    have e0 := HR.out.cells 0 _ rfl
    have e1 := HR.out.cells 1 _ rfl
    have e2 := HR.out.cells 2 _ rfl
    have e3 := HR.out.cells 3 _ rfl
    have f0 := HR.out.free 0 (by simp)
    have f1 := HR.out.free 1 (by simp)
    have f2 := HR.out.free 2 (by simp)
    have f3 := HR.out.free 3 (by simp)
    have lz := HR.out.lt
    go_simp
    change K _ (v4.setCells (w.heap.size + 1) 0 [.string ⟨(opWord k).toArray⟩, .bool (hasKey k), .bool (hasOld k), .bool (hasNew k)])
    have HB := hD (below_gr HB.out (grown_vs (b := w.heap.size + 1) [.string ⟨(opWord k).toArray⟩, .bool (hasKey k), .bool (hasOld k), .bool (hasNew k)]) (by omega))
    have HO := hD (HO.out.grown (grown_vs (b := w.heap.size + 1) [.string ⟨(opWord k).toArray⟩, .bool (hasKey k), .bool (hasOld k), .bool (hasNew k)]) (by omega))
    have HVF := hD (HVF.out.grown (grown_vs (b := w.heap.size + 1) [.string ⟨(opWord k).toArray⟩, .bool (hasKey k), .bool (hasOld k), .bool (hasNew k)]) (by omega))
    have HR := hD (HR.out.sets [.string ⟨(opWord k).toArray⟩, .bool (hasKey k), .bool (hasOld k), .bool (hasNew k)] rfl)
    clear e0 e1 e2 e3 f0 f1 f2 f3 lz
    generalize v4.setCells (w.heap.size + 1) 0 [.string ⟨(opWord k).toArray⟩, .bool (hasKey k), .bool (hasOld k), .bool (hasNew k)] = v5 at HB HO HR HVF ⊢
    have hS6 : World.cell? v5 ⟨w.heap.size, 1, none⟩ = some (.string key) ∧ World.cell? v5 ⟨w.heap.size, 2, none⟩ = some (.string old) ∧ World.cell? v5 ⟨w.heap.size, 3, none⟩ = some (.string new) ∧ World.cell? v5 ⟨b4, 0, none⟩ = some (.string ⟨(opWord k).toArray⟩) ∧ World.cell? v5 ⟨b4, 1, none⟩ = some (.bool (hasKey k)) ∧ World.cell? v5 ⟨b4, 2, none⟩ = some (.bool (hasOld k)) ∧ World.cell? v5 ⟨b4, 3, none⟩ = some (.bool (hasNew k)) := ⟨HO.out.cells 1 _ rfl, HO.out.cells 2 _ rfl, HO.out.cells 3 _ rfl, HVF.out.cells 0 _ rfl, HVF.out.cells 1 _ rfl, HVF.out.cells 2 _ rfl, HVF.out.cells 3 _ rfl⟩
    refine hK.out _ _ hS6 (fun hHeld => ?_)
    clear hK K
    try simp only [Act.put,qk1,qk2,qk3,qk4,qk5,qk6]
    refine tkr 24 rfl (fun K hK => ?_)
    go_simp
    refine hK.out _ _ hS6 (fun hHeld => ?_)
    clear hK K
    try simp only [Act.put,qk1,qk2,qk3,qk4,qk5,qk6]
    refine wpAnyH_done (by kernel_rfl) ?_ _
    refine NoPanic.normal ?_
    clear hS5 hS6
    go_wp2_with fail
    refine bodyPost_ret (v := .tuple #[.agg #[.string ⟨(opWord k).toArray⟩, .bool (hasKey k), .bool (hasOld k), .bool (hasNew k)], .bool false]) ?_ rfl ⟨by rw [hQ], HB.out⟩
    exact results_mid_slot Tryz.results202 _ _ (w.heap.size + 1) [.string ⟨(opWord k).toArray⟩, .bool (hasKey k), .bool (hasOld k), .bool (hasNew k)] _ _ rfl rfl HR.out.range Tryz.underlying185 rfl (by kernel_rfl)
   | true =>
    cases hk2 : fieldOk old.data.toList (hasOld k) with
    | false =>
     have hQ : opOkF k key.data.toList old.data.toList new.data.toList = false := by unfold opOkF; rw [hk1, hk2]; rfl
     go_wp2_with fail
     refine wp_region_noPanic ?_
     have HO := hD (HO.out.below (Below.refl _ _).drew)
     have HR := hD (HR.out.below (Below.refl _ _).drew)
     have HVF := hD (HVF.out.below (Below.refl _ _).drew)
     have HB := hD (HB.out.drew)
     generalize hv : v3.drew = v4 at HO HR HVF HB
     have hS5 : World.cell? v4 ⟨w.heap.size, 1, none⟩ = some (.string key) ∧ World.cell? v4 ⟨w.heap.size, 2, none⟩ = some (.string old) ∧ World.cell? v4 ⟨w.heap.size, 3, none⟩ = some (.string new) ∧ World.cell? v4 ⟨b4, 0, none⟩ = some (.string ⟨(opWord k).toArray⟩) ∧ World.cell? v4 ⟨b4, 1, none⟩ = some (.bool (hasKey k)) ∧ World.cell? v4 ⟨b4, 2, none⟩ = some (.bool (hasOld k)) ∧ World.cell? v4 ⟨b4, 3, none⟩ = some (.bool (hasNew k)) := ⟨HO.out.cells 1 _ rfl, HO.out.cells 2 _ rfl, HO.out.cells 3 _ rfl, HVF.out.cells 0 _ rfl, HVF.out.cells 1 _ rfl, HVF.out.cells 2 _ rfl, HVF.out.cells 3 _ rfl⟩
     refine wp_region_held_drew (S := fun W => World.cell? W ⟨w.heap.size, 1, none⟩ = some (.string key) ∧ World.cell? W ⟨w.heap.size, 2, none⟩ = some (.string old) ∧ World.cell? W ⟨w.heap.size, 3, none⟩ = some (.string new) ∧ World.cell? W ⟨b4, 0, none⟩ = some (.string ⟨(opWord k).toArray⟩) ∧ World.cell? W ⟨b4, 1, none⟩ = some (.bool (hasKey k)) ∧ World.cell? W ⟨b4, 2, none⟩ = some (.bool (hasOld k)) ∧ World.cell? W ⟨b4, 3, none⟩ = some (.bool (hasNew k))) (by kernel_rfl) (by rw [hv]; exact hS5) (fun hHeld => ?_)
     rw [hv] at hHeld ⊢
     clear hv
     refine tkq 0 rfl (v := ?_) (.inl ⟨by rfl, ?_⟩) (by assumption) ?_
     rotate_left
     · intro W h; (try dsimp only at h); go_simp; try with_reducible rfl
     try simp only [Act.put,qk1,qk2,qk3,qk4,qk6]
     refine tkq 1 rfl (v := ?_) (.inl ⟨by rfl, ?_⟩) (by assumption) ?_
     rotate_left
     · intro W h; (try dsimp only at h); go_simp; try with_reducible rfl
     try simp only [Act.put,qk1,qk2,qk3,qk4,qk5,qk6]
     refine tkq 2 rfl (v := ?_) (.inl ⟨by rfl, ?_⟩) (by assumption) ?_
     rotate_left
     · intro W h; (try dsimp only at h); go_simp; try with_reducible rfl
     try simp only [Act.put,qk1,qk2,qk3,qk4,qk5,qk6]
     refine tkq 3 rfl (v := ?_) (.inl ⟨by rfl, ?_⟩) (by assumption) ?_
     rotate_left
     · intro W h; (try dsimp only at h); go_simp; try with_reducible rfl
     try simp only [Act.put,qk1,qk2,qk3,qk4,qk5,qk6]
     refine tkq 4 rfl (v := ?_) (.inl ⟨by rfl, ?_⟩) (by assumption) ?_
     rotate_left
     · intro W h; (try dsimp only at h); go_simp; try with_reducible rfl
     try simp only [Act.put,qk1,qk2,qk3,qk4,qk5,qk6]
     refine tkq 5 rfl (v := ?_) (.inl ⟨by rfl, ?_⟩) (by assumption) ?_
     rotate_left
     · intro W h; (try dsimp only at h); go_simp; try with_reducible rfl
     try simp only [Act.put,qk1,qk2,qk3,qk4,qk5,qk6]
     refine tkq 6 rfl (v := ?_) (.inl ⟨by rfl, ?_⟩) (by assumption) ?_
     rotate_left
     · intro W h; (try dsimp only at h); go_simp; try with_reducible rfl
     try simp only [Act.put,qk1,qk2,qk3,qk4,qk5,qk6]
     refine tkr 7 rfl (fun K hK => ?_)
     go_simp
     go_at_call 244
     refine (field_any key (hasKey k) _ s1).mono ?_
     rw [hk1]
     rintro e wq ⟨rfl, hwq⟩
     replace hwq := hwq.symm
     subst hwq
     go_wp2_with fail
     refine hK.out _ _ (by assumption) (fun hHeld => ?_)
     clear hK K
     try simp only [Act.put,qk1,qk2,qk3,qk4,qk5,qk6]
     refine tkq 8 rfl (v := ?_) (.inl ⟨by rfl, ?_⟩) (by assumption) ?_
     rotate_left
     · intro W h; (try dsimp only at h); go_simp; try with_reducible rfl
     try simp only [Act.put,qk1,qk2,qk3,qk4,qk5,qk6]
     refine tkq 9 rfl (v := ?_) (.inl ⟨by rfl, ?_⟩) (by assumption) ?_
     rotate_left
     · intro W h; (try dsimp only at h); go_simp; try with_reducible rfl
     try simp only [Act.put,qk1,qk2,qk3,qk4,qk5,qk6]
     refine tkq 10 rfl (v := ?_) (.inl ⟨by rfl, ?_⟩) (by assumption) ?_
     rotate_left
     · intro W h; (try dsimp only at h); go_simp; try with_reducible rfl
     try simp only [Act.put,qk1,qk2,qk3,qk4,qk5,qk6]
     refine tkq 11 rfl (v := ?_) (.inl ⟨by rfl, ?_⟩) (by assumption) ?_
     rotate_left
     · intro W h; (try dsimp only at h); go_simp; try with_reducible rfl
     try simp only [Act.put,qk1,qk2,qk3,qk4,qk5,qk6]
     refine tkq 12 rfl (v := ?_) (.inl ⟨by rfl, ?_⟩) (by assumption) ?_
     rotate_left
     · intro W h; (try dsimp only at h); go_simp; try with_reducible rfl
     try simp only [Act.put,qk1,qk2,qk3,qk4,qk5,qk6]
     refine tkq 13 rfl (v := ?_) (.inl ⟨by rfl, ?_⟩) (by assumption) ?_
     rotate_left
     · intro W h; (try dsimp only at h); go_simp; try with_reducible rfl
     try simp only [Act.put,qk1,qk2,qk3,qk4,qk5,qk6]
     refine tkr 14 rfl (fun K hK => ?_)
     go_simp
     go_at_call 244
     refine (field_any old (hasOld k) _ s2).mono ?_
     rw [hk2]
     rintro e wq ⟨rfl, hwq⟩
     replace hwq := hwq.symm
     subst hwq
     go_wp2_with fail
     refine hK.out _ _ (by assumption) (fun hHeld => ?_)
     clear hK K
     try simp only [Act.put,qk1,qk2,qk3,qk4,qk5,qk6]
     refine tkq 15 rfl (v := ?_) (.inl ⟨by rfl, ?_⟩) (by assumption) ?_
     rotate_left
     · intro W h; (try dsimp only at h); go_simp; try with_reducible rfl
     try simp only [Act.put,qk1,qk2,qk3,qk4,qk5,qk6]
     refine tkq 16 rfl (v := ?_) (.inl ⟨by rfl, ?_⟩) (by assumption) ?_
     rotate_left
     · intro W h; (try dsimp only at h); go_simp; try with_reducible rfl
     try simp only [Act.put,qk1,qk2,qk3,qk4,qk5,qk6]
     refine tkq 17 rfl (v := undef) (.inr ⟨by rfl, rfl⟩) (by assumption) ?_
     try simp only [Act.put,qk1,qk2,qk3,qk4,qk5,qk6]
     refine tkq 18 rfl (v := undef) (.inr ⟨by rfl, rfl⟩) (by assumption) ?_
     try simp only [Act.put,qk1,qk2,qk3,qk4,qk5,qk6]
     refine tkq 19 rfl (v := undef) (.inr ⟨by rfl, rfl⟩) (by assumption) ?_
     try simp only [Act.put,qk1,qk2,qk3,qk4,qk5,qk6]
     refine tkq 20 rfl (v := undef) (.inr ⟨by rfl, rfl⟩) (by assumption) ?_
     try simp only [Act.put,qk1,qk2,qk3,qk4,qk5,qk6]
     refine tkq 21 rfl (v := undef) (.inr ⟨by rfl, rfl⟩) (by assumption) ?_
     try simp only [Act.put,qk1,qk2,qk3,qk4,qk5,qk6]
     refine tkq 22 rfl (v := ?_) (.inl ⟨by rfl, ?_⟩) (by assumption) ?_
     rotate_left
     · intro W h; (try dsimp only at h); go_simp; try with_reducible rfl
     try simp only [Act.put,qk1,qk2,qk3,qk4,qk5,qk6]
     refine tkr 23 rfl (fun K hK => ?_)
     have e0 := HR.out.cells 0 _ rfl
     have e1 := HR.out.cells 1 _ rfl
     have e2 := HR.out.cells 2 _ rfl
     have e3 := HR.out.cells 3 _ rfl
     have f0 := HR.out.free 0 (by simp)
     have f1 := HR.out.free 1 (by simp)
     have f2 := HR.out.free 2 (by simp)
     have f3 := HR.out.free 3 (by simp)
     have lz := HR.out.lt
     go_simp
     change K _ (v4.setCells (w.heap.size + 1) 0 [.string ⟨(opWord k).toArray⟩, .bool (hasKey k), .bool (hasOld k), .bool (hasNew k)])
     have HB := hD (below_gr HB.out (grown_vs (b := w.heap.size + 1) [.string ⟨(opWord k).toArray⟩, .bool (hasKey k), .bool (hasOld k), .bool (hasNew k)]) (by omega))
     have HO := hD (HO.out.grown (grown_vs (b := w.heap.size + 1) [.string ⟨(opWord k).toArray⟩, .bool (hasKey k), .bool (hasOld k), .bool (hasNew k)]) (by omega))
     have HVF := hD (HVF.out.grown (grown_vs (b := w.heap.size + 1) [.string ⟨(opWord k).toArray⟩, .bool (hasKey k), .bool (hasOld k), .bool (hasNew k)]) (by omega))
     have HR := hD (HR.out.sets [.string ⟨(opWord k).toArray⟩, .bool (hasKey k), .bool (hasOld k), .bool (hasNew k)] rfl)
     clear e0 e1 e2 e3 f0 f1 f2 f3 lz
     generalize v4.setCells (w.heap.size + 1) 0 [.string ⟨(opWord k).toArray⟩, .bool (hasKey k), .bool (hasOld k), .bool (hasNew k)] = v5 at HB HO HR HVF ⊢
     have hS6 : World.cell? v5 ⟨w.heap.size, 1, none⟩ = some (.string key) ∧ World.cell? v5 ⟨w.heap.size, 2, none⟩ = some (.string old) ∧ World.cell? v5 ⟨w.heap.size, 3, none⟩ = some (.string new) ∧ World.cell? v5 ⟨b4, 0, none⟩ = some (.string ⟨(opWord k).toArray⟩) ∧ World.cell? v5 ⟨b4, 1, none⟩ = some (.bool (hasKey k)) ∧ World.cell? v5 ⟨b4, 2, none⟩ = some (.bool (hasOld k)) ∧ World.cell? v5 ⟨b4, 3, none⟩ = some (.bool (hasNew k)) := ⟨HO.out.cells 1 _ rfl, HO.out.cells 2 _ rfl, HO.out.cells 3 _ rfl, HVF.out.cells 0 _ rfl, HVF.out.cells 1 _ rfl, HVF.out.cells 2 _ rfl, HVF.out.cells 3 _ rfl⟩
     refine hK.out _ _ hS6 (fun hHeld => ?_)
     clear hK K
     try simp only [Act.put,qk1,qk2,qk3,qk4,qk5,qk6]
     refine tkr 24 rfl (fun K hK => ?_)
     go_simp
     refine hK.out _ _ hS6 (fun hHeld => ?_)
     clear hK K
     try simp only [Act.put,qk1,qk2,qk3,qk4,qk5,qk6]
     refine wpAnyH_done (by kernel_rfl) ?_ _
     refine NoPanic.normal ?_
     clear hS5 hS6
     go_wp2_with fail
     refine bodyPost_ret (v := .tuple #[.agg #[.string ⟨(opWord k).toArray⟩, .bool (hasKey k), .bool (hasOld k), .bool (hasNew k)], .bool false]) ?_ rfl ⟨by rw [hQ], HB.out⟩
     exact results_mid_slot Tryz.results202 _ _ (w.heap.size + 1) [.string ⟨(opWord k).toArray⟩, .bool (hasKey k), .bool (hasOld k), .bool (hasNew k)] _ _ rfl rfl HR.out.range Tryz.underlying185 rfl (by kernel_rfl)
    | true =>
     obtain ⟨bb, hk3⟩ : ∃ bb, fieldOk new.data.toList (hasNew k) = bb := ⟨_, rfl⟩
     have hQ : opOkF k key.data.toList old.data.toList new.data.toList = bb := by unfold opOkF; rw [hk1, hk2, hk3]; rfl
     go_wp2_with fail
     refine wp_region_noPanic ?_
     have HO := hD (HO.out.below (Below.refl _ _).drew)
     have HR := hD (HR.out.below (Below.refl _ _).drew)
     have HVF := hD (HVF.out.below (Below.refl _ _).drew)
     have HB := hD (HB.out.drew)
     generalize hv : v3.drew = v4 at HO HR HVF HB
     have hS5 : World.cell? v4 ⟨w.heap.size, 1, none⟩ = some (.string key) ∧ World.cell? v4 ⟨w.heap.size, 2, none⟩ = some (.string old) ∧ World.cell? v4 ⟨w.heap.size, 3, none⟩ = some (.string new) ∧ World.cell? v4 ⟨b4, 0, none⟩ = some (.string ⟨(opWord k).toArray⟩) ∧ World.cell? v4 ⟨b4, 1, none⟩ = some (.bool (hasKey k)) ∧ World.cell? v4 ⟨b4, 2, none⟩ = some (.bool (hasOld k)) ∧ World.cell? v4 ⟨b4, 3, none⟩ = some (.bool (hasNew k)) := ⟨HO.out.cells 1 _ rfl, HO.out.cells 2 _ rfl, HO.out.cells 3 _ rfl, HVF.out.cells 0 _ rfl, HVF.out.cells 1 _ rfl, HVF.out.cells 2 _ rfl, HVF.out.cells 3 _ rfl⟩
     refine wp_region_held_drew (S := fun W => World.cell? W ⟨w.heap.size, 1, none⟩ = some (.string key) ∧ World.cell? W ⟨w.heap.size, 2, none⟩ = some (.string old) ∧ World.cell? W ⟨w.heap.size, 3, none⟩ = some (.string new) ∧ World.cell? W ⟨b4, 0, none⟩ = some (.string ⟨(opWord k).toArray⟩) ∧ World.cell? W ⟨b4, 1, none⟩ = some (.bool (hasKey k)) ∧ World.cell? W ⟨b4, 2, none⟩ = some (.bool (hasOld k)) ∧ World.cell? W ⟨b4, 3, none⟩ = some (.bool (hasNew k))) (by kernel_rfl) (by rw [hv]; exact hS5) (fun hHeld => ?_)
     rw [hv] at hHeld ⊢
     clear hv
     refine tkq 0 rfl (v := ?_) (.inl ⟨by rfl, ?_⟩) (by assumption) ?_
     rotate_left
     · intro W h; (try dsimp only at h); go_simp; try with_reducible rfl
     try simp only [Act.put,qk1,qk2,qk3,qk4,qk6]
     refine tkq 1 rfl (v := ?_) (.inl ⟨by rfl, ?_⟩) (by assumption) ?_
     rotate_left
     · intro W h; (try dsimp only at h); go_simp; try with_reducible rfl
     try simp only [Act.put,qk1,qk2,qk3,qk4,qk5,qk6]
     refine tkq 2 rfl (v := ?_) (.inl ⟨by rfl, ?_⟩) (by assumption) ?_
     rotate_left
     · intro W h; (try dsimp only at h); go_simp; try with_reducible rfl
     try simp only [Act.put,qk1,qk2,qk3,qk4,qk5,qk6]
     refine tkq 3 rfl (v := ?_) (.inl ⟨by rfl, ?_⟩) (by assumption) ?_
     rotate_left
     · intro W h; (try dsimp only at h); go_simp; try with_reducible rfl
     try simp only [Act.put,qk1,qk2,qk3,qk4,qk5,qk6]
     refine tkq 4 rfl (v := ?_) (.inl ⟨by rfl, ?_⟩) (by assumption) ?_
     rotate_left
     · intro W h; (try dsimp only at h); go_simp; try with_reducible rfl
     try simp only [Act.put,qk1,qk2,qk3,qk4,qk5,qk6]
     refine tkq 5 rfl (v := ?_) (.inl ⟨by rfl, ?_⟩) (by assumption) ?_
     rotate_left
     · intro W h; (try dsimp only at h); go_simp; try with_reducible rfl
     try simp only [Act.put,qk1,qk2,qk3,qk4,qk5,qk6]
     refine tkq 6 rfl (v := ?_) (.inl ⟨by rfl, ?_⟩) (by assumption) ?_
     rotate_left
     · intro W h; (try dsimp only at h); go_simp; try with_reducible rfl
     try simp only [Act.put,qk1,qk2,qk3,qk4,qk5,qk6]
     refine tkr 7 rfl (fun K hK => ?_)
     go_simp
     go_at_call 244
     refine (field_any key (hasKey k) _ s1).mono ?_
     rw [hk1]
     rintro e wq ⟨rfl, hwq⟩
     replace hwq := hwq.symm
     subst hwq
     go_wp2_with fail
     refine hK.out _ _ (by assumption) (fun hHeld => ?_)
     clear hK K
     try simp only [Act.put,qk1,qk2,qk3,qk4,qk5,qk6]
     refine tkq 8 rfl (v := ?_) (.inl ⟨by rfl, ?_⟩) (by assumption) ?_
     rotate_left
     · intro W h; (try dsimp only at h); go_simp; try with_reducible rfl
     try simp only [Act.put,qk1,qk2,qk3,qk4,qk5,qk6]
     refine tkq 9 rfl (v := ?_) (.inl ⟨by rfl, ?_⟩) (by assumption) ?_
     rotate_left
     · intro W h; (try dsimp only at h); go_simp; try with_reducible rfl
     try simp only [Act.put,qk1,qk2,qk3,qk4,qk5,qk6]
     refine tkq 10 rfl (v := ?_) (.inl ⟨by rfl, ?_⟩) (by assumption) ?_
     rotate_left
     · intro W h; (try dsimp only at h); go_simp; try with_reducible rfl
     try simp only [Act.put,qk1,qk2,qk3,qk4,qk5,qk6]
     refine tkq 11 rfl (v := ?_) (.inl ⟨by rfl, ?_⟩) (by assumption) ?_
     rotate_left
     · intro W h; (try dsimp only at h); go_simp; try with_reducible rfl
     try simp only [Act.put,qk1,qk2,qk3,qk4,qk5,qk6]
     refine tkq 12 rfl (v := ?_) (.inl ⟨by rfl, ?_⟩) (by assumption) ?_
     rotate_left
     · intro W h; (try dsimp only at h); go_simp; try with_reducible rfl
     try simp only [Act.put,qk1,qk2,qk3,qk4,qk5,qk6]
     refine tkq 13 rfl (v := ?_) (.inl ⟨by rfl, ?_⟩) (by assumption) ?_
     rotate_left
     · intro W h; (try dsimp only at h); go_simp; try with_reducible rfl
     try simp only [Act.put,qk1,qk2,qk3,qk4,qk5,qk6]
     refine tkr 14 rfl (fun K hK => ?_)
     go_simp
     go_at_call 244
     refine (field_any old (hasOld k) _ s2).mono ?_
     rw [hk2]
     rintro e wq ⟨rfl, hwq⟩
     replace hwq := hwq.symm
     subst hwq
     go_wp2_with fail
     refine hK.out _ _ (by assumption) (fun hHeld => ?_)
     clear hK K
     try simp only [Act.put,qk1,qk2,qk3,qk4,qk5,qk6]
     refine tkq 15 rfl (v := ?_) (.inl ⟨by rfl, ?_⟩) (by assumption) ?_
     rotate_left
     · intro W h; (try dsimp only at h); go_simp; try with_reducible rfl
     try simp only [Act.put,qk1,qk2,qk3,qk4,qk5,qk6]
     refine tkq 16 rfl (v := ?_) (.inl ⟨by rfl, ?_⟩) (by assumption) ?_
     rotate_left
     · intro W h; (try dsimp only at h); go_simp; try with_reducible rfl
     try simp only [Act.put,qk1,qk2,qk3,qk4,qk5,qk6]
     refine tkq 17 rfl (v := ?_) (.inl ⟨by rfl, ?_⟩) (by assumption) ?_
     rotate_left
     · intro W h; (try dsimp only at h); go_simp; try with_reducible rfl
     try simp only [Act.put,qk1,qk2,qk3,qk4,qk5,qk6]
     refine tkq 18 rfl (v := ?_) (.inl ⟨by rfl, ?_⟩) (by assumption) ?_
     rotate_left
     · intro W h; (try dsimp only at h); go_simp; try with_reducible rfl
     try simp only [Act.put,qk1,qk2,qk3,qk4,qk5,qk6]
     refine tkq 19 rfl (v := ?_) (.inl ⟨by rfl, ?_⟩) (by assumption) ?_
     rotate_left
     · intro W h; (try dsimp only at h); go_simp; try with_reducible rfl
     try simp only [Act.put,qk1,qk2,qk3,qk4,qk5,qk6]
     refine tkq 20 rfl (v := ?_) (.inl ⟨by rfl, ?_⟩) (by assumption) ?_
     rotate_left
     · intro W h; (try dsimp only at h); go_simp; try with_reducible rfl
     try simp only [Act.put,qk1,qk2,qk3,qk4,qk5,qk6]
     refine tkr 21 rfl (fun K hK => ?_)
     go_simp
     go_at_call 244
     refine (field_any new (hasNew k) _ s3).mono ?_
     rw [hk3]
     rintro e wq ⟨rfl, hwq⟩
     replace hwq := hwq.symm
     subst hwq
     go_wp2_with fail
     refine hK.out _ _ (by assumption) (fun hHeld => ?_)
     clear hK K
     try simp only [Act.put,qk1,qk2,qk3,qk4,qk5,qk6]
     refine tkq 22 rfl (v := ?_) (.inl ⟨by rfl, ?_⟩) (by assumption) ?_
     rotate_left
     · intro W h; (try dsimp only at h); go_simp; try with_reducible rfl
     try simp only [Act.put,qk1,qk2,qk3,qk4,qk5,qk6]
     refine tkr 23 rfl (fun K hK => ?_)
     have e0 := HR.out.cells 0 _ rfl
     have e1 := HR.out.cells 1 _ rfl
     have e2 := HR.out.cells 2 _ rfl
     have e3 := HR.out.cells 3 _ rfl
     have f0 := HR.out.free 0 (by simp)
     have f1 := HR.out.free 1 (by simp)
     have f2 := HR.out.free 2 (by simp)
     have f3 := HR.out.free 3 (by simp)
     have lz := HR.out.lt
     go_simp
     change K _ (v4.setCells (w.heap.size + 1) 0 [.string ⟨(opWord k).toArray⟩, .bool (hasKey k), .bool (hasOld k), .bool (hasNew k)])
     have HB := hD (below_gr HB.out (grown_vs (b := w.heap.size + 1) [.string ⟨(opWord k).toArray⟩, .bool (hasKey k), .bool (hasOld k), .bool (hasNew k)]) (by omega))
     have HO := hD (HO.out.grown (grown_vs (b := w.heap.size + 1) [.string ⟨(opWord k).toArray⟩, .bool (hasKey k), .bool (hasOld k), .bool (hasNew k)]) (by omega))
     have HVF := hD (HVF.out.grown (grown_vs (b := w.heap.size + 1) [.string ⟨(opWord k).toArray⟩, .bool (hasKey k), .bool (hasOld k), .bool (hasNew k)]) (by omega))
     have HR := hD (HR.out.sets [.string ⟨(opWord k).toArray⟩, .bool (hasKey k), .bool (hasOld k), .bool (hasNew k)] rfl)
     clear e0 e1 e2 e3 f0 f1 f2 f3 lz
     generalize v4.setCells (w.heap.size + 1) 0 [.string ⟨(opWord k).toArray⟩, .bool (hasKey k), .bool (hasOld k), .bool (hasNew k)] = v5 at HB HO HR HVF ⊢
     have hS6 : World.cell? v5 ⟨w.heap.size, 1, none⟩ = some (.string key) ∧ World.cell? v5 ⟨w.heap.size, 2, none⟩ = some (.string old) ∧ World.cell? v5 ⟨w.heap.size, 3, none⟩ = some (.string new) ∧ World.cell? v5 ⟨b4, 0, none⟩ = some (.string ⟨(opWord k).toArray⟩) ∧ World.cell? v5 ⟨b4, 1, none⟩ = some (.bool (hasKey k)) ∧ World.cell? v5 ⟨b4, 2, none⟩ = some (.bool (hasOld k)) ∧ World.cell? v5 ⟨b4, 3, none⟩ = some (.bool (hasNew k)) := ⟨HO.out.cells 1 _ rfl, HO.out.cells 2 _ rfl, HO.out.cells 3 _ rfl, HVF.out.cells 0 _ rfl, HVF.out.cells 1 _ rfl, HVF.out.cells 2 _ rfl, HVF.out.cells 3 _ rfl⟩
     refine hK.out _ _ hS6 (fun hHeld => ?_)
     clear hK K
     try simp only [Act.put,qk1,qk2,qk3,qk4,qk5,qk6]
     refine tkr 24 rfl (fun K hK => ?_)
     go_simp
     refine hK.out _ _ hS6 (fun hHeld => ?_)
     clear hK K
     try simp only [Act.put,qk1,qk2,qk3,qk4,qk5,qk6]
     refine wpAnyH_done (by kernel_rfl) ?_ _
     refine NoPanic.normal ?_
     clear hS5 hS6
     go_wp2_with fail
     refine bodyPost_ret (v := .tuple #[.agg #[.string ⟨(opWord k).toArray⟩, .bool (hasKey k), .bool (hasOld k), .bool (hasNew k)], .bool bb]) ?_ rfl ⟨by rw [hQ], HB.out⟩
     exact results_mid_slot Tryz.results202 _ _ (w.heap.size + 1) [.string ⟨(opWord k).toArray⟩, .bool (hasKey k), .bool (hasOld k), .bool (hasNew k)] _ _ rfl rfl HR.out.range Tryz.underlying185 rfl (by kernel_rfl)
 · go_simp
   have hs := below_new v0 (.cells #[.string ⟨#[]⟩, .bool false, .bool false, .bool false] 185)
   have HVF := hD (Vr.new v0 [.string ⟨#[]⟩, .bool false, .bool false, .bool false] 185)
   have hgf : w.heap.size + 2 ≤ v0.heap.size := by have := HR.out.lt; omega
   have HO := hD (HO.out.below hs)
   have HR := hD (HR.out.below hs)
   have HB := hD (bon HB.out hs)
   clear hs
   generalize v0.alloc (.cells #[.string ⟨#[]⟩, .bool false, .bool false, .bool false] 185) = v1 at HO HR HB HVF ⊢
   generalize v0.heap.size = b4 at HVF hgf ⊢
   refine hK.out _ _ (HO.out.cells 0 _ rfl) (fun hHeld => ?_)
   have hS1 : World.cell? v1 ⟨w.heap.size, 0, none⟩ = some (.int .i64 (k : Int)) := HO.out.cells 0 _ rfl
   clear hK K
   try simp only [Act.put,qk1,qk2,qk3,qk4,qk5,qk6]
   clear hS0
   refine tkr 0 rfl (fun K hK => ?_)
   go_simp
   go_at_call 137
   refine (forms_any _).mono ?_
   rintro e v2 ⟨bm, rfl, hown, hs, hbm⟩
   go_wp2_with fail
   have HM := hD hown
   have HNe : Hid (bm ≠ b4) := hD (by have := HVF.out.lt; omega)
   have HO := hD (HO.out.below hs)
   have HR := hD (HR.out.below hs)
   have HB := hD (bon HB.out hs)
   have HVF := hD (HVF.out.below hs)
   clear hown hbm hs
   refine hK.out _ _ (HO.out.cells 0 _ rfl) (fun hHeld => ?_)
   clear hK K
   try simp only [Act.put,qk1,qk2,qk3,qk4,qk5,qk6]
   refine wpAnyH_strong (S' := fun W => World.cell? W ⟨w.heap.size, 0, none⟩ = some (.int .i64 (k : Int)) ∧ (Instr.lookup 182 (.map (some bm)) (.int .i64 (k : Int)) true).run Tryz.prog W = .ok (.tuple #[.agg #[.string ⟨(opWord k).toArray⟩, .bool (hasKey k), .bool (hasOld k), .bool (hasNew k)], .bool true]) W) (fun _ h => h.1) _ _ _ _ ?_
   have hS2 : World.cell? v2 ⟨w.heap.size, 0, none⟩ = some (.int .i64 (k : Int)) ∧ (Instr.lookup 182 (.map (some bm)) (.int .i64 (k : Int)) true).run Tryz.prog v2 = .ok (.tuple #[.agg #[.string ⟨(opWord k).toArray⟩, .bool (hasKey k), .bool (hasOld k), .bool (hasNew k)], .bool true]) v2 := ⟨HO.out.cells 0 _ rfl, forms_look HM.out k h1 h6⟩
   clear hS1
   refine tkq 3 rfl (v := ?_) (.inl ⟨by rfl, ?_⟩) (by assumption) ?_
   rotate_left
   · intro W h; (try dsimp only at h); go_simp; try with_reducible rfl
   try simp only [Act.put,qk1,qk2,qk3,qk4,qk5,qk6]
   refine tkq 4 rfl (v := ?_) (.inl ⟨by rfl, ?_⟩) (by assumption) ?_
   rotate_left
   · intro W h; (try dsimp only at h); go_simp; try with_reducible rfl
   try simp only [Act.put,qk1,qk2,qk3,qk4,qk5,qk6]
   refine tkq 5 rfl (v := ?_) (.inl ⟨by rfl, ?_⟩) (by assumption) ?_
   rotate_left
   · intro W h; (try dsimp only at h); go_simp; try with_reducible rfl
   try simp only [Act.put,qk1,qk2,qk3,qk4,qk5,qk6]
   refine tkq 6 rfl (v := ?_) (.inl ⟨by rfl, ?_⟩) (by assumption) ?_
   rotate_left
   · intro W h; (try dsimp only at h); go_simp; try with_reducible rfl
   try simp only [Act.put,qk1,qk2,qk3,qk4,qk5,qk6]
   refine tkr 8 rfl (fun K hK => ?_)
   have e0 := HVF.out.cells 0 _ rfl
   have e1 := HVF.out.cells 1 _ rfl
   have e2 := HVF.out.cells 2 _ rfl
   have e3 := HVF.out.cells 3 _ rfl
   have f0 := HVF.out.free 0 (by simp)
   have f1 := HVF.out.free 1 (by simp)
   have f2 := HVF.out.free 2 (by simp)
   have f3 := HVF.out.free 3 (by simp)
   have lz := HVF.out.lt
   go_simp
   change K _ (v2.setCells b4 0 [.string ⟨(opWord k).toArray⟩, .bool (hasKey k), .bool (hasOld k), .bool (hasNew k)])
   have HB := hD (below_gr HB.out (grown_vs (b := b4) [.string ⟨(opWord k).toArray⟩, .bool (hasKey k), .bool (hasOld k), .bool (hasNew k)]) (by omega))
   have HR := hD (HR.out.grown (grown_vs (b := b4) [.string ⟨(opWord k).toArray⟩, .bool (hasKey k), .bool (hasOld k), .bool (hasNew k)]) (by omega))
   have HO := hD (HO.out.grown (grown_vs (b := b4) [.string ⟨(opWord k).toArray⟩, .bool (hasKey k), .bool (hasOld k), .bool (hasNew k)]) (by omega))
   have HM := hD (HM.out.kept (grown_vs (b := b4) [.string ⟨(opWord k).toArray⟩, .bool (hasKey k), .bool (hasOld k), .bool (hasNew k)]) (by simpa using HNe.out))
   have HVF := hD (HVF.out.sets [.string ⟨(opWord k).toArray⟩, .bool (hasKey k), .bool (hasOld k), .bool (hasNew k)] rfl)
   clear e0 e1 e2 e3 f0 f1 f2 f3 lz
   generalize v2.setCells b4 0 [.string ⟨(opWord k).toArray⟩, .bool (hasKey k), .bool (hasOld k), .bool (hasNew k)] = v3 at HB HR HO HM HVF ⊢
   have hS4 : World.cell? v3 ⟨w.heap.size, 0, none⟩ = some (.int .i64 (k : Int)) ∧ (Instr.lookup 182 (.map (some bm)) (.int .i64 (k : Int)) true).run Tryz.prog v3 = .ok (.tuple #[.agg #[.string ⟨(opWord k).toArray⟩, .bool (hasKey k), .bool (hasOld k), .bool (hasNew k)], .bool true]) v3 := ⟨HO.out.cells 0 _ rfl, forms_look HM.out k h1 h6⟩
   refine hK.out _ _ hS4 (fun hHeld => ?_)
   clear hK K
   try simp only [Act.put,qk1,qk2,qk3,qk4,qk5,qk6]
   refine tkr 9 rfl (fun K hK => ?_)
   go_simp
   refine hK.out _ _ hS4 (fun hHeld => ?_)
   clear hK K
   try simp only [Act.put,qk1,qk2,qk3,qk4,qk5,qk6]
   refine wpAnyH_done (by kernel_rfl) ?_ _
   refine NoPanic.normal ?_
   clear hS4 hS2 HM HNe
   cases hk1 : fieldOk key.data.toList (hasKey k) with
   | false =>
    have hQ : opOkF k key.data.toList old.data.toList new.data.toList = false := by unfold opOkF; rw [hk1]; rfl
    go_wp2_with fail
    refine wp_region_noPanic ?_
    have HO := hD (HO.out.below (Below.refl _ _).drew)
    have HR := hD (HR.out.below (Below.refl _ _).drew)
    have HVF := hD (HVF.out.below (Below.refl _ _).drew)
    have HB := hD (HB.out.drew)
    generalize hv : v3.drew = v4 at HO HR HVF HB
    have hS5 : World.cell? v4 ⟨w.heap.size, 1, none⟩ = some (.string key) ∧ World.cell? v4 ⟨w.heap.size, 2, none⟩ = some (.string old) ∧ World.cell? v4 ⟨w.heap.size, 3, none⟩ = some (.string new) ∧ World.cell? v4 ⟨b4, 0, none⟩ = some (.string ⟨(opWord k).toArray⟩) ∧ World.cell? v4 ⟨b4, 1, none⟩ = some (.bool (hasKey k)) ∧ World.cell? v4 ⟨b4, 2, none⟩ = some (.bool (hasOld k)) ∧ World.cell? v4 ⟨b4, 3, none⟩ = some (.bool (hasNew k)) := ⟨HO.out.cells 1 _ rfl, HO.out.cells 2 _ rfl, HO.out.cells 3 _ rfl, HVF.out.cells 0 _ rfl, HVF.out.cells 1 _ rfl, HVF.out.cells 2 _ rfl, HVF.out.cells 3 _ rfl⟩
    refine wp_region_held_drew (S := fun W => World.cell? W ⟨w.heap.size, 1, none⟩ = some (.string key) ∧ World.cell? W ⟨w.heap.size, 2, none⟩ = some (.string old) ∧ World.cell? W ⟨w.heap.size, 3, none⟩ = some (.string new) ∧ World.cell? W ⟨b4, 0, none⟩ = some (.string ⟨(opWord k).toArray⟩) ∧ World.cell? W ⟨b4, 1, none⟩ = some (.bool (hasKey k)) ∧ World.cell? W ⟨b4, 2, none⟩ = some (.bool (hasOld k)) ∧ World.cell? W ⟨b4, 3, none⟩ = some (.bool (hasNew k))) (by kernel_rfl) (by rw [hv]; exact hS5) (fun hHeld => ?_)
    rw [hv] at hHeld ⊢
    clear hv
    refine tkq 0 rfl (v := ?_) (.inl ⟨by rfl, ?_⟩) (by assumption) ?_
    rotate_left
    · intro W h; (try dsimp only at h); go_simp; try with_reducible rfl
    try simp only [Act.put,qk1,qk2,qk3,qk4,qk6]
    refine tkq 1 rfl (v := ?_) (.inl ⟨by rfl, ?_⟩) (by assumption) ?_
    rotate_left
    · intro W h; (try dsimp only at h); go_simp; try with_reducible rfl
    try simp only [Act.put,qk1,qk2,qk3,qk4,qk5,qk6]
    refine tkq 2 rfl (v := ?_) (.inl ⟨by rfl, ?_⟩) (by assumption) ?_
    rotate_left
    · intro W h; (try dsimp only at h); go_simp; try with_reducible rfl
    try simp only [Act.put,qk1,qk2,qk3,qk4,qk5,qk6]
    refine tkq 3 rfl (v := ?_) (.inl ⟨by rfl, ?_⟩) (by assumption) ?_
    rotate_left
    · intro W h; (try dsimp only at h); go_simp; try with_reducible rfl
    try simp only [Act.put,qk1,qk2,qk3,qk4,qk5,qk6]
    refine tkq 4 rfl (v := ?_) (.inl ⟨by rfl, ?_⟩) (by assumption) ?_
    rotate_left
    · intro W h; (try dsimp only at h); go_simp; try with_reducible rfl
    try simp only [Act.put,qk1,qk2,qk3,qk4,qk5,qk6]
    refine tkq 5 rfl (v := ?_) (.inl ⟨by rfl, ?_⟩) (by assumption) ?_
    rotate_left
    · intro W h; (try dsimp only at h); go_simp; try with_reducible rfl
    try simp only [Act.put,qk1,qk2,qk3,qk4,qk5,qk6]
    refine tkq 6 rfl (v := ?_) (.inl ⟨by rfl, ?_⟩) (by assumption) ?_
    rotate_left
    · intro W h; (try dsimp only at h); go_simp; try with_reducible rfl
    try simp only [Act.put,qk1,qk2,qk3,qk4,qk5,qk6]
    refine tkr 7 rfl (fun K hK => ?_)
    go_simp
    go_at_call 244
    refine (field_any key (hasKey k) _ s1).mono ?_
    rw [hk1]
    rintro e wq ⟨rfl, hwq⟩
    replace hwq := hwq.symm
    subst hwq
    go_wp2_with fail
    refine hK.out _ _ (by assumption) (fun hHeld => ?_)
    clear hK K
    try simp only [Act.put,qk1,qk2,qk3,qk4,qk5,qk6]
    refine tkq 8 rfl (v := ?_) (.inl ⟨by rfl, ?_⟩) (by assumption) ?_
    rotate_left
    · intro W h; (try dsimp only at h); go_simp; try with_reducible rfl
    try simp only [Act.put,qk1,qk2,qk3,qk4,qk5,qk6]
    refine tkq 9 rfl (v := ?_) (.inl ⟨by rfl, ?_⟩) (by assumption) ?_
    rotate_left
    · intro W h; (try dsimp only at h); go_simp; try with_reducible rfl
    try simp only [Act.put,qk1,qk2,qk3,qk4,qk5,qk6]
    refine tkq 10 rfl (v := undef) (.inr ⟨by rfl, rfl⟩) (by assumption) ?_
    try simp only [Act.put,qk1,qk2,qk3,qk4,qk5,qk6]
    refine tkq 11 rfl (v := undef) (.inr ⟨by rfl, rfl⟩) (by assumption) ?_
    try simp only [Act.put,qk1,qk2,qk3,qk4,qk5,qk6]
    refine tkq 12 rfl (v := undef) (.inr ⟨by rfl, rfl⟩) (by assumption) ?_
    try simp only [Act.put,qk1,qk2,qk3,qk4,qk5,qk6]
    refine tkq 13 rfl (v := undef) (.inr ⟨by rfl, rfl⟩) (by assumption) ?_
    try simp only [Act.put,qk1,qk2,qk3,qk4,qk5,qk6]
    refine tkq 14 rfl (v := undef) (.inr ⟨by rfl, rfl⟩) (by assumption) ?_
    try simp only [Act.put,qk1,qk2,qk3,qk4,qk5,qk6]
    refine tkq 15 rfl (v := ?_) (.inl ⟨by rfl, ?_⟩) (by assumption) ?_
    rotate_left
    · intro W h; (try dsimp only at h); go_simp; try with_reducible rfl
    try simp only [Act.put,qk1,qk2,qk3,qk4,qk5,qk6]
    refine tkq 16 rfl (v := ?_) (.inl ⟨by rfl, ?_⟩) (by assumption) ?_
    rotate_left
    · intro W h; (try dsimp only at h); go_simp; try with_reducible rfl
    try simp only [Act.put,qk1,qk2,qk3,qk4,qk5,qk6]
    refine tkq 17 rfl (v := undef) (.inr ⟨by rfl, rfl⟩) (by assumption) ?_
    try simp only [Act.put,qk1,qk2,qk3,qk4,qk5,qk6]
    refine tkq 18 rfl (v := undef) (.inr ⟨by rfl, rfl⟩) (by assumption) ?_
    try simp only [Act.put,qk1,qk2,qk3,qk4,qk5,qk6]
    refine tkq 19 rfl (v := undef) (.inr ⟨by rfl, rfl⟩) (by assumption) ?_
    try simp only [Act.put,qk1,qk2,qk3,qk4,qk5,qk6]
    refine tkq 20 rfl (v := undef) (.inr ⟨by rfl, rfl⟩) (by assumption) ?_
    try simp only [Act.put,qk1,qk2,qk3,qk4,qk5,qk6]
    refine tkq 21 rfl (v := undef) (.inr ⟨by rfl, rfl⟩) (by assumption) ?_
    try simp only [Act.put,qk1,qk2,qk3,qk4,qk5,qk6]
    refine tkq 22 rfl (v := ?_) (.inl ⟨by rfl, ?_⟩) (by assumption) ?_
    rotate_left
    · intro W h; (try dsimp only at h); go_simp; try with_reducible rfl
    try simp only [Act.put,qk1,qk2,qk3,qk4,qk5,qk6]
    refine tkr 23 rfl (fun K hK => ?_)
    have e0 := HR.out.cells 0 _ rfl
    have e1 := HR.out.cells 1 _ rfl
    have e2 := HR.out.cells 2 _ rfl
    have e3 := HR.out.cells 3 _ rfl
    have f0 := HR.out.free 0 (by simp)
    have f1 := HR.out.free 1 (by simp)
    have f2 := HR.out.free 2 (by simp)
    have f3 := HR.out.free 3 (by simp)
    have lz := HR.out.lt
    go_simp
    change K _ (v4.setCells (w.heap.size + 1) 0 [.string ⟨(opWord k).toArray⟩, .bool (hasKey k), .bool (hasOld k), .bool (hasNew k)])
    have HB := hD (below_gr HB.out (grown_vs (b := w.heap.size + 1) [.string ⟨(opWord k).toArray⟩, .bool (hasKey k), .bool (hasOld k), .bool (hasNew k)]) (by omega))
    have HO := hD (HO.out.grown (grown_vs (b := w.heap.size + 1) [.string ⟨(opWord k).toArray⟩, .bool (hasKey k), .bool (hasOld k), .bool (hasNew k)]) (by omega))
    have HVF := hD (HVF.out.grown (grown_vs (b := w.heap.size + 1) [.string ⟨(opWord k).toArray⟩, .bool (hasKey k), .bool (hasOld k), .bool (hasNew k)]) (by omega))
    have HR := hD (HR.out.sets [.string ⟨(opWord k).toArray⟩, .bool (hasKey k), .bool (hasOld k), .bool (hasNew k)] rfl)
    clear e0 e1 e2 e3 f0 f1 f2 f3 lz
    generalize v4.setCells (w.heap.size + 1) 0 [.string ⟨(opWord k).toArray⟩, .bool (hasKey k), .bool (hasOld k), .bool (hasNew k)] = v5 at HB HO HR HVF ⊢
    have hS6 : World.cell? v5 ⟨w.heap.size, 1, none⟩ = some (.string key) ∧ World.cell? v5 ⟨w.heap.size, 2, none⟩ = some (.string old) ∧ World.cell? v5 ⟨w.heap.size, 3, none⟩ = some (.string new) ∧ World.cell? v5 ⟨b4, 0, none⟩ = some (.string ⟨(opWord k).toArray⟩) ∧ World.cell? v5 ⟨b4, 1, none⟩ = some (.bool (hasKey k)) ∧ World.cell? v5 ⟨b4, 2, none⟩ = some (.bool (hasOld k)) ∧ World.cell? v5 ⟨b4, 3, none⟩ = some (.bool (hasNew k)) := ⟨HO.out.cells 1 _ rfl, HO.out.cells 2 _ rfl, HO.out.cells 3 _ rfl, HVF.out.cells 0 _ rfl, HVF.out.cells 1 _ rfl, HVF.out.cells 2 _ rfl, HVF.out.cells 3 _ rfl⟩
    refine hK.out _ _ hS6 (fun hHeld => ?_)
    clear hK K
    try simp only [Act.put,qk1,qk2,qk3,qk4,qk5,qk6]
    refine tkr 24 rfl (fun K hK => ?_)
    go_simp
    refine hK.out _ _ hS6 (fun hHeld => ?_)
    clear hK K
    try simp only [Act.put,qk1,qk2,qk3,qk4,qk5,qk6]
    refine wpAnyH_done (by kernel_rfl) ?_ _
    refine NoPanic.normal ?_
    clear hS5 hS6
    go_wp2_with fail
    refine bodyPost_ret (v := .tuple #[.agg #[.string ⟨(opWord k).toArray⟩, .bool (hasKey k), .bool (hasOld k), .bool (hasNew k)], .bool false]) ?_ rfl ⟨by rw [hQ], HB.out⟩
    exact results_mid_slot Tryz.results202 _ _ (w.heap.size + 1) [.string ⟨(opWord k).toArray⟩, .bool (hasKey k), .bool (hasOld k), .bool (hasNew k)] _ _ rfl rfl HR.out.range Tryz.underlying185 rfl (by kernel_rfl)
   | true =>
    cases hk2 : fieldOk old.data.toList (hasOld k) with
    | false =>
     have hQ : opOkF k key.data.toList old.data.toList new.data.toList = false := by unfold opOkF; rw [hk1, hk2]; rfl
     go_wp2_with fail
     refine wp_region_noPanic ?_
     have HO := hD (HO.out.below (Below.refl _ _).drew)
     have HR := hD (HR.out.below (Below.refl _ _).drew)
     have HVF := hD (HVF.out.below (Below.refl _ _).drew)
     have HB := hD (HB.out.drew)
     generalize hv : v3.drew = v4 at HO HR HVF HB
     have hS5 : World.cell? v4 ⟨w.heap.size, 1, none⟩ = some (.string key) ∧ World.cell? v4 ⟨w.heap.size, 2, none⟩ = some (.string old) ∧ World.cell? v4 ⟨w.heap.size, 3, none⟩ = some (.string new) ∧ World.cell? v4 ⟨b4, 0, none⟩ = some (.string ⟨(opWord k).toArray⟩) ∧ World.cell? v4 ⟨b4, 1, none⟩ = some (.bool (hasKey k)) ∧ World.cell? v4 ⟨b4, 2, none⟩ = some (.bool (hasOld k)) ∧ World.cell? v4 ⟨b4, 3, none⟩ = some (.bool (hasNew k)) := ⟨HO.out.cells 1 _ rfl, HO.out.cells 2 _ rfl, HO.out.cells 3 _ rfl, HVF.out.cells 0 _ rfl, HVF.out.cells 1 _ rfl, HVF.out.cells 2 _ rfl, HVF.out.cells 3 _ rfl⟩
     refine wp_region_held_drew (S := fun W => World.cell? W ⟨w.heap.size, 1, none⟩ = some (.string key) ∧ World.cell? W ⟨w.heap.size, 2, none⟩ = some (.string old) ∧ World.cell? W ⟨w.heap.size, 3, none⟩ = some (.string new) ∧ World.cell? W ⟨b4, 0, none⟩ = some (.string ⟨(opWord k).toArray⟩) ∧ World.cell? W ⟨b4, 1, none⟩ = some (.bool (hasKey k)) ∧ World.cell? W ⟨b4, 2, none⟩ = some (.bool (hasOld k)) ∧ World.cell? W ⟨b4, 3, none⟩ = some (.bool (hasNew k))) (by kernel_rfl) (by rw [hv]; exact hS5) (fun hHeld => ?_)
     rw [hv] at hHeld ⊢
     clear hv
     refine tkq 0 rfl (v := ?_) (.inl ⟨by rfl, ?_⟩) (by assumption) ?_
     rotate_left
     · intro W h; (try dsimp only at h); go_simp; try with_reducible rfl
     try simp only [Act.put,qk1,qk2,qk3,qk4,qk6]
     refine tkq 1 rfl (v := ?_) (.inl ⟨by rfl, ?_⟩) (by assumption) ?_
     rotate_left
     · intro W h; (try dsimp only at h); go_simp; try with_reducible rfl
     try simp only [Act.put,qk1,qk2,qk3,qk4,qk5,qk6]
     refine tkq 2 rfl (v := ?_) (.inl ⟨by rfl, ?_⟩) (by assumption) ?_
     rotate_left
     · intro W h; (try dsimp only at h); go_simp; try with_reducible rfl
     try simp only [Act.put,qk1,qk2,qk3,qk4,qk5,qk6]
     refine tkq 3 rfl (v := ?_) (.inl ⟨by rfl, ?_⟩) (by assumption) ?_
     rotate_left
     · intro W h; (try dsimp only at h); go_simp; try with_reducible rfl
     try simp only [Act.put,qk1,qk2,qk3,qk4,qk5,qk6]
     refine tkq 4 rfl (v := ?_) (.inl ⟨by rfl, ?_⟩) (by assumption) ?_
     rotate_left
     · intro W h; (try dsimp only at h); go_simp; try with_reducible rfl
     try simp only [Act.put,qk1,qk2,qk3,qk4,qk5,qk6]
     refine tkq 5 rfl (v := ?_) (.inl ⟨by rfl, ?_⟩) (by assumption) ?_
     rotate_left
     · intro W h; (try dsimp only at h); go_simp; try with_reducible rfl
     try simp only [Act.put,qk1,qk2,qk3,qk4,qk5,qk6]
     refine tkq 6 rfl (v := ?_) (.inl ⟨by rfl, ?_⟩) (by assumption) ?_
     rotate_left
     · intro W h; (try dsimp only at h); go_simp; try with_reducible rfl
     try simp only [Act.put,qk1,qk2,qk3,qk4,qk5,qk6]
     refine tkr 7 rfl (fun K hK => ?_)
     go_simp
     go_at_call 244
     refine (field_any key (hasKey k) _ s1).mono ?_
     rw [hk1]
     rintro e wq ⟨rfl, hwq⟩
     replace hwq := hwq.symm
     subst hwq
     go_wp2_with fail
     refine hK.out _ _ (by assumption) (fun hHeld => ?_)
     clear hK K
     try simp only [Act.put,qk1,qk2,qk3,qk4,qk5,qk6]
     refine tkq 8 rfl (v := ?_) (.inl ⟨by rfl, ?_⟩) (by assumption) ?_
     rotate_left
     · intro W h; (try dsimp only at h); go_simp; try with_reducible rfl
     try simp only [Act.put,qk1,qk2,qk3,qk4,qk5,qk6]
     refine tkq 9 rfl (v := ?_) (.inl ⟨by rfl, ?_⟩) (by assumption) ?_
     rotate_left
     · intro W h; (try dsimp only at h); go_simp; try with_reducible rfl
     try simp only [Act.put,qk1,qk2,qk3,qk4,qk5,qk6]
     refine tkq 10 rfl (v := ?_) (.inl ⟨by rfl, ?_⟩) (by assumption) ?_
     rotate_left
     · intro W h; (try dsimp only at h); go_simp; try with_reducible rfl
     try simp only [Act.put,qk1,qk2,qk3,qk4,qk5,qk6]
     refine tkq 11 rfl (v := ?_) (.inl ⟨by rfl, ?_⟩) (by assumption) ?_
     rotate_left
     · intro W h; (try dsimp only at h); go_simp; try with_reducible rfl
     try simp only [Act.put,qk1,qk2,qk3,qk4,qk5,qk6]
     refine tkq 12 rfl (v := ?_) (.inl ⟨by rfl, ?_⟩) (by assumption) ?_
     rotate_left
     · intro W h; (try dsimp only at h); go_simp; try with_reducible rfl
     try simp only [Act.put,qk1,qk2,qk3,qk4,qk5,qk6]
     refine tkq 13 rfl (v := ?_) (.inl ⟨by rfl, ?_⟩) (by assumption) ?_
     rotate_left
     · intro W h; (try dsimp only at h); go_simp; try with_reducible rfl
     try simp only [Act.put,qk1,qk2,qk3,qk4,qk5,qk6]
     refine tkr 14 rfl (fun K hK => ?_)
     go_simp
     go_at_call 244
     refine (field_any old (hasOld k) _ s2).mono ?_
     rw [hk2]
     rintro e wq ⟨rfl, hwq⟩
     replace hwq := hwq.symm
     subst hwq
     go_wp2_with fail
     refine hK.out _ _ (by assumption) (fun hHeld => ?_)
     clear hK K
     try simp only [Act.put,qk1,qk2,qk3,qk4,qk5,qk6]
     refine tkq 15 rfl (v := ?_) (.inl ⟨by rfl, ?_⟩) (by assumption) ?_
     rotate_left
     · intro W h; (try dsimp only at h); go_simp; try with_reducible rfl
     try simp only [Act.put,qk1,qk2,qk3,qk4,qk5,qk6]
     refine tkq 16 rfl (v := ?_) (.inl ⟨by rfl, ?_⟩) (by assumption) ?_
     rotate_left
     · intro W h; (try dsimp only at h); go_simp; try with_reducible rfl
     try simp only [Act.put,qk1,qk2,qk3,qk4,qk5,qk6]
     refine tkq 17 rfl (v := undef) (.inr ⟨by rfl, rfl⟩) (by assumption) ?_
     try simp only [Act.put,qk1,qk2,qk3,qk4,qk5,qk6]
     refine tkq 18 rfl (v := undef) (.inr ⟨by rfl, rfl⟩) (by assumption) ?_
     try simp only [Act.put,qk1,qk2,qk3,qk4,qk5,qk6]
     refine tkq 19 rfl (v := undef) (.inr ⟨by rfl, rfl⟩) (by assumption) ?_
     try simp only [Act.put,qk1,qk2,qk3,qk4,qk5,qk6]
     refine tkq 20 rfl (v := undef) (.inr ⟨by rfl, rfl⟩) (by assumption) ?_
     try simp only [Act.put,qk1,qk2,qk3,qk4,qk5,qk6]
     refine tkq 21 rfl (v := undef) (.inr ⟨by rfl, rfl⟩) (by assumption) ?_
     try simp only [Act.put,qk1,qk2,qk3,qk4,qk5,qk6]
     refine tkq 22 rfl (v := ?_) (.inl ⟨by rfl, ?_⟩) (by assumption) ?_
     rotate_left
     · intro W h; (try dsimp only at h); go_simp; try with_reducible rfl
     try simp only [Act.put,qk1,qk2,qk3,qk4,qk5,qk6]
     refine tkr 23 rfl (fun K hK => ?_)
     have e0 := HR.out.cells 0 _ rfl
     have e1 := HR.out.cells 1 _ rfl
     have e2 := HR.out.cells 2 _ rfl
     have e3 := HR.out.cells 3 _ rfl
     have f0 := HR.out.free 0 (by simp)
     have f1 := HR.out.free 1 (by simp)
     have f2 := HR.out.free 2 (by simp)
     have f3 := HR.out.free 3 (by simp)
     have lz := HR.out.lt
     go_simp
     change K _ (v4.setCells (w.heap.size + 1) 0 [.string ⟨(opWord k).toArray⟩, .bool (hasKey k), .bool (hasOld k), .bool (hasNew k)])
     have HB := hD (below_gr HB.out (grown_vs (b := w.heap.size + 1) [.string ⟨(opWord k).toArray⟩, .bool (hasKey k), .bool (hasOld k), .bool (hasNew k)]) (by omega))
     have HO := hD (HO.out.grown (grown_vs (b := w.heap.size + 1) [.string ⟨(opWord k).toArray⟩, .bool (hasKey k), .bool (hasOld k), .bool (hasNew k)]) (by omega))
     have HVF := hD (HVF.out.grown (grown_vs (b := w.heap.size + 1) [.string ⟨(opWord k).toArray⟩, .bool (hasKey k), .bool (hasOld k), .bool (hasNew k)]) (by omega))
     have HR := hD (HR.out.sets [.string ⟨(opWord k).toArray⟩, .bool (hasKey k), .bool (hasOld k), .bool (hasNew k)] rfl)
     clear e0 e1 e2 e3 f0 f1 f2 f3 lz
     generalize v4.setCells (w.heap.size + 1) 0 [.string ⟨(opWord k).toArray⟩, .bool (hasKey k), .bool (hasOld k), .bool (hasNew k)] = v5 at HB HO HR HVF ⊢
     have hS6 : World.cell? v5 ⟨w.heap.size, 1, none⟩ = some (.string key) ∧ World.cell? v5 ⟨w.heap.size, 2, none⟩ = some (.string old) ∧ World.cell? v5 ⟨w.heap.size, 3, none⟩ = some (.string new) ∧ World.cell? v5 ⟨b4, 0, none⟩ = some (.string ⟨(opWord k).toArray⟩) ∧ World.cell? v5 ⟨b4, 1, none⟩ = some (.bool (hasKey k)) ∧ World.cell? v5 ⟨b4, 2, none⟩ = some (.bool (hasOld k)) ∧ World.cell? v5 ⟨b4, 3, none⟩ = some (.bool (hasNew k)) := ⟨HO.out.cells 1 _ rfl, HO.out.cells 2 _ rfl, HO.out.cells 3 _ rfl, HVF.out.cells 0 _ rfl, HVF.out.cells 1 _ rfl, HVF.out.cells 2 _ rfl, HVF.out.cells 3 _ rfl⟩
     refine hK.out _ _ hS6 (fun hHeld => ?_)
     clear hK K
     try simp only [Act.put,qk1,qk2,qk3,qk4,qk5,qk6]
     refine tkr 24 rfl (fun K hK => ?_)
     go_simp
     refine hK.out _ _ hS6 (fun hHeld => ?_)
     clear hK K
     try simp only [Act.put,qk1,qk2,qk3,qk4,qk5,qk6]
     refine wpAnyH_done (by kernel_rfl) ?_ _
     refine NoPanic.normal ?_
     clear hS5 hS6
     go_wp2_with fail
     refine bodyPost_ret (v := .tuple #[.agg #[.string ⟨(opWord k).toArray⟩, .bool (hasKey k), .bool (hasOld k), .bool (hasNew k)], .bool false]) ?_ rfl ⟨by rw [hQ], HB.out⟩
     exact results_mid_slot Tryz.results202 _ _ (w.heap.size + 1) [.string ⟨(opWord k).toArray⟩, .bool (hasKey k), .bool (hasOld k), .bool (hasNew k)] _ _ rfl rfl HR.out.range Tryz.underlying185 rfl (by kernel_rfl)
    | true =>
     obtain ⟨bb, hk3⟩ : ∃ bb, fieldOk new.data.toList (hasNew k) = bb := ⟨_, rfl⟩
     have hQ : opOkF k key.data.toList old.data.toList new.data.toList = bb := by unfold opOkF; rw [hk1, hk2, hk3]; rfl
     go_wp2_with fail
     refine wp_region_noPanic ?_
     have HO := hD (HO.out.below (Below.refl _ _).drew)
     have HR := hD (HR.out.below (Below.refl _ _).drew)
     have HVF := hD (HVF.out.below (Below.refl _ _).drew)
     have HB := hD (HB.out.drew)
     generalize hv : v3.drew = v4 at HO HR HVF HB
     have hS5 : World.cell? v4 ⟨w.heap.size, 1, none⟩ = some (.string key) ∧ World.cell? v4 ⟨w.heap.size, 2, none⟩ = some (.string old) ∧ World.cell? v4 ⟨w.heap.size, 3, none⟩ = some (.string new) ∧ World.cell? v4 ⟨b4, 0, none⟩ = some (.string ⟨(opWord k).toArray⟩) ∧ World.cell? v4 ⟨b4, 1, none⟩ = some (.bool (hasKey k)) ∧ World.cell? v4 ⟨b4, 2, none⟩ = some (.bool (hasOld k)) ∧ World.cell? v4 ⟨b4, 3, none⟩ = some (.bool (hasNew k)) := ⟨HO.out.cells 1 _ rfl, HO.out.cells 2 _ rfl, HO.out.cells 3 _ rfl, HVF.out.cells 0 _ rfl, HVF.out.cells 1 _ rfl, HVF.out.cells 2 _ rfl, HVF.out.cells 3 _ rfl⟩
     refine wp_region_held_drew (S := fun W => World.cell? W ⟨w.heap.size, 1, none⟩ = some (.string key) ∧ World.cell? W ⟨w.heap.size, 2, none⟩ = some (.string old) ∧ World.cell? W ⟨w.heap.size, 3, none⟩ = some (.string new) ∧ World.cell? W ⟨b4, 0, none⟩ = some (.string ⟨(opWord k).toArray⟩) ∧ World.cell? W ⟨b4, 1, none⟩ = some (.bool (hasKey k)) ∧ World.cell? W ⟨b4, 2, none⟩ = some (.bool (hasOld k)) ∧ World.cell? W ⟨b4, 3, none⟩ = some (.bool (hasNew k))) (by kernel_rfl) (by rw [hv]; exact hS5) (fun hHeld => ?_)
     rw [hv] at hHeld ⊢
     clear hv
     refine tkq 0 rfl (v := ?_) (.inl ⟨by rfl, ?_⟩) (by assumption) ?_
     rotate_left
     · intro W h; (try dsimp only at h); go_simp; try with_reducible rfl
     try simp only [Act.put,qk1,qk2,qk3,qk4,qk6]
     refine tkq 1 rfl (v := ?_) (.inl ⟨by rfl, ?_⟩) (by assumption) ?_
     rotate_left
     · intro W h; (try dsimp only at h); go_simp; try with_reducible rfl
     try simp only [Act.put,qk1,qk2,qk3,qk4,qk5,qk6]
     refine tkq 2 rfl (v := ?_) (.inl ⟨by rfl, ?_⟩) (by assumption) ?_
     rotate_left
     · intro W h; (try dsimp only at h); go_simp; try with_reducible rfl
     try simp only [Act.put,qk1,qk2,qk3,qk4,qk5,qk6]
     refine tkq 3 rfl (v := ?_) (.inl ⟨by rfl, ?_⟩) (by assumption) ?_
     rotate_left
     · intro W h; (try dsimp only at h); go_simp; try with_reducible rfl
     try simp only [Act.put,qk1,qk2,qk3,qk4,qk5,qk6]
     refine tkq 4 rfl (v := ?_) (.inl ⟨by rfl, ?_⟩) (by assumption) ?_
     rotate_left
     · intro W h; (try dsimp only at h); go_simp; try with_reducible rfl
     try simp only [Act.put,qk1,qk2,qk3,qk4,qk5,qk6]
     refine tkq 5 rfl (v := ?_) (.inl ⟨by rfl, ?_⟩) (by assumption) ?_
     rotate_left
     · intro W h; (try dsimp only at h); go_simp; try with_reducible rfl
     try simp only [Act.put,qk1,qk2,qk3,qk4,qk5,qk6]
     refine tkq 6 rfl (v := ?_) (.inl ⟨by rfl, ?_⟩) (by assumption) ?_
     rotate_left
     · intro W h; (try dsimp only at h); go_simp; try with_reducible rfl
     try simp only [Act.put,qk1,qk2,qk3,qk4,qk5,qk6]
     refine tkr 7 rfl (fun K hK => ?_)
     go_simp
     go_at_call 244
     refine (field_any key (hasKey k) _ s1).mono ?_
     rw [hk1]
     rintro e wq ⟨rfl, hwq⟩
     replace hwq := hwq.symm
     subst hwq
     go_wp2_with fail
     refine hK.out _ _ (by assumption) (fun hHeld => ?_)
     clear hK K
     try simp only [Act.put,qk1,qk2,qk3,qk4,qk5,qk6]
     refine tkq 8 rfl (v := ?_) (.inl ⟨by rfl, ?_⟩) (by assumption) ?_
     rotate_left
     · intro W h; (try dsimp only at h); go_simp; try with_reducible rfl
     try simp only [Act.put,qk1,qk2,qk3,qk4,qk5,qk6]
     refine tkq 9 rfl (v := ?_) (.inl ⟨by rfl, ?_⟩) (by assumption) ?_
     rotate_left
     · intro W h; (try dsimp only at h); go_simp; try with_reducible rfl
     try simp only [Act.put,qk1,qk2,qk3,qk4,qk5,qk6]
     refine tkq 10 rfl (v := ?_) (.inl ⟨by rfl, ?_⟩) (by assumption) ?_
     rotate_left
     · intro W h; (try dsimp only at h); go_simp; try with_reducible rfl
     try simp only [Act.put,qk1,qk2,qk3,qk4,qk5,qk6]
     refine tkq 11 rfl (v := ?_) (.inl ⟨by rfl, ?_⟩) (by assumption) ?_
     rotate_left
     · intro W h; (try dsimp only at h); go_simp; try with_reducible rfl
     try simp only [Act.put,qk1,qk2,qk3,qk4,qk5,qk6]
     refine tkq 12 rfl (v := ?_) (.inl ⟨by rfl, ?_⟩) (by assumption) ?_
     rotate_left
     · intro W h; (try dsimp only at h); go_simp; try with_reducible rfl
     try simp only [Act.put,qk1,qk2,qk3,qk4,qk5,qk6]
     refine tkq 13 rfl (v := ?_) (.inl ⟨by rfl, ?_⟩) (by assumption) ?_
     rotate_left
     · intro W h; (try dsimp only at h); go_simp; try with_reducible rfl
     try simp only [Act.put,qk1,qk2,qk3,qk4,qk5,qk6]
     refine tkr 14 rfl (fun K hK => ?_)
     go_simp
     go_at_call 244
     refine (field_any old (hasOld k) _ s2).mono ?_
     rw [hk2]
     rintro e wq ⟨rfl, hwq⟩
     replace hwq := hwq.symm
     subst hwq
     go_wp2_with fail
     refine hK.out _ _ (by assumption) (fun hHeld => ?_)
     clear hK K
     try simp only [Act.put,qk1,qk2,qk3,qk4,qk5,qk6]
     refine tkq 15 rfl (v := ?_) (.inl ⟨by rfl, ?_⟩) (by assumption) ?_
     rotate_left
     · intro W h; (try dsimp only at h); go_simp; try with_reducible rfl
     try simp only [Act.put,qk1,qk2,qk3,qk4,qk5,qk6]
     refine tkq 16 rfl (v := ?_) (.inl ⟨by rfl, ?_⟩) (by assumption) ?_
     rotate_left
     · intro W h; (try dsimp only at h); go_simp; try with_reducible rfl
     try simp only [Act.put,qk1,qk2,qk3,qk4,qk5,qk6]
     refine tkq 17 rfl (v := ?_) (.inl ⟨by rfl, ?_⟩) (by assumption) ?_
     rotate_left
     · intro W h; (try dsimp only at h); go_simp; try with_reducible rfl
     try simp only [Act.put,qk1,qk2,qk3,qk4,qk5,qk6]
     refine tkq 18 rfl (v := ?_) (.inl ⟨by rfl, ?_⟩) (by assumption) ?_
     rotate_left
     · intro W h; (try dsimp only at h); go_simp; try with_reducible rfl
     try simp only [Act.put,qk1,qk2,qk3,qk4,qk5,qk6]
     refine tkq 19 rfl (v := ?_) (.inl ⟨by rfl, ?_⟩) (by assumption) ?_
     rotate_left
     · intro W h; (try dsimp only at h); go_simp; try with_reducible rfl
     try simp only [Act.put,qk1,qk2,qk3,qk4,qk5,qk6]
     refine tkq 20 rfl (v := ?_) (.inl ⟨by rfl, ?_⟩) (by assumption) ?_
     rotate_left
     · intro W h; (try dsimp only at h); go_simp; try with_reducible rfl
     try simp only [Act.put,qk1,qk2,qk3,qk4,qk5,qk6]
     refine tkr 21 rfl (fun K hK => ?_)
     go_simp
     go_at_call 244
     refine (field_any new (hasNew k) _ s3).mono ?_
     rw [hk3]
     rintro e wq ⟨rfl, hwq⟩
     replace hwq := hwq.symm
     subst hwq
     go_wp2_with fail
     refine hK.out _ _ (by assumption) (fun hHeld => ?_)
     clear hK K
     try simp only [Act.put,qk1,qk2,qk3,qk4,qk5,qk6]
     refine tkq 22 rfl (v := ?_) (.inl ⟨by rfl, ?_⟩) (by assumption) ?_
     rotate_left
     · intro W h; (try dsimp only at h); go_simp; try with_reducible rfl
     try simp only [Act.put,qk1,qk2,qk3,qk4,qk5,qk6]
     refine tkr 23 rfl (fun K hK => ?_)
     have e0 := HR.out.cells 0 _ rfl
     have e1 := HR.out.cells 1 _ rfl
     have e2 := HR.out.cells 2 _ rfl
     have e3 := HR.out.cells 3 _ rfl
     have f0 := HR.out.free 0 (by simp)
     have f1 := HR.out.free 1 (by simp)
     have f2 := HR.out.free 2 (by simp)
     have f3 := HR.out.free 3 (by simp)
     have lz := HR.out.lt
     go_simp
     change K _ (v4.setCells (w.heap.size + 1) 0 [.string ⟨(opWord k).toArray⟩, .bool (hasKey k), .bool (hasOld k), .bool (hasNew k)])
     have HB := hD (below_gr HB.out (grown_vs (b := w.heap.size + 1) [.string ⟨(opWord k).toArray⟩, .bool (hasKey k), .bool (hasOld k), .bool (hasNew k)]) (by omega))
     have HO := hD (HO.out.grown (grown_vs (b := w.heap.size + 1) [.string ⟨(opWord k).toArray⟩, .bool (hasKey k), .bool (hasOld k), .bool (hasNew k)]) (by omega))
     have HVF := hD (HVF.out.grown (grown_vs (b := w.heap.size + 1) [.string ⟨(opWord k).toArray⟩, .bool (hasKey k), .bool (hasOld k), .bool (hasNew k)]) (by omega))
     have HR := hD (HR.out.sets [.string ⟨(opWord k).toArray⟩, .bool (hasKey k), .bool (hasOld k), .bool (hasNew k)] rfl)
     clear e0 e1 e2 e3 f0 f1 f2 f3 lz
     generalize v4.setCells (w.heap.size + 1) 0 [.string ⟨(opWord k).toArray⟩, .bool (hasKey k), .bool (hasOld k), .bool (hasNew k)] = v5 at HB HO HR HVF ⊢
     have hS6 : World.cell? v5 ⟨w.heap.size, 1, none⟩ = some (.string key) ∧ World.cell? v5 ⟨w.heap.size, 2, none⟩ = some (.string old) ∧ World.cell? v5 ⟨w.heap.size, 3, none⟩ = some (.string new) ∧ World.cell? v5 ⟨b4, 0, none⟩ = some (.string ⟨(opWord k).toArray⟩) ∧ World.cell? v5 ⟨b4, 1, none⟩ = some (.bool (hasKey k)) ∧ World.cell? v5 ⟨b4, 2, none⟩ = some (.bool (hasOld k)) ∧ World.cell? v5 ⟨b4, 3, none⟩ = some (.bool (hasNew k)) := ⟨HO.out.cells 1 _ rfl, HO.out.cells 2 _ rfl, HO.out.cells 3 _ rfl, HVF.out.cells 0 _ rfl, HVF.out.cells 1 _ rfl, HVF.out.cells 2 _ rfl, HVF.out.cells 3 _ rfl⟩
     refine hK.out _ _ hS6 (fun hHeld => ?_)
     clear hK K
     try simp only [Act.put,qk1,qk2,qk3,qk4,qk5,qk6]
     refine tkr 24 rfl (fun K hK => ?_)
     go_simp
     refine hK.out _ _ hS6 (fun hHeld => ?_)
     clear hK K
     try simp only [Act.put,qk1,qk2,qk3,qk4,qk5,qk6]
     refine wpAnyH_done (by kernel_rfl) ?_ _
     refine NoPanic.normal ?_
     clear hS5 hS6
     go_wp2_with fail
     refine bodyPost_ret (v := .tuple #[.agg #[.string ⟨(opWord k).toArray⟩, .bool (hasKey k), .bool (hasOld k), .bool (hasNew k)], .bool bb]) ?_ rfl ⟨by rw [hQ], HB.out⟩
     exact results_mid_slot Tryz.results202 _ _ (w.heap.size + 1) [.string ⟨(opWord k).toArray⟩, .bool (hasKey k), .bool (hasOld k), .bool (hasNew k)] _ _ rfl rfl HR.out.range Tryz.underlying185 rfl (by kernel_rfl)
end Go.Proofs.YtepbbaifpckcpaaGreatDoor
