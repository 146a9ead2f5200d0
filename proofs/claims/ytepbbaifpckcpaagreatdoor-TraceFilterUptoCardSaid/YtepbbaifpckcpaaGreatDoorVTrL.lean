/- The contract of trace.Valid. -/
import Derived.Test.YtepbbaifpckcpaaGreatDoorVPl
import Derived.Test.YtepbbaifpckcpaaGreatDoorVTrK
namespace Go.Proofs.YtepbbaifpckcpaaGreatDoor
open Go.RowKit
theorem goodAll_take (E : List UInt8 → Bool) (l : List Pt) (k : Nat) (_hk : k < l.length) : (List.range (k + 1)).all (goodFrom E l) = ((List.range k).all (goodFrom E l) && goodFrom E l k) := by
 rw [List.range_succ, List.all_append]
 simp
theorem goodFrom_at (E : List UInt8 → Bool) (l : List Pt) (k : Nat) (hk : k < l.length) (_hp : k = 0 ∨ 0 < k) : goodFrom E l k = (goodPt E l[k] && (decide (k = 0) || decide (l[k - 1].time ≤ l[k].time))) := by
 unfold goodFrom
 rw [List.getElem?_eq_getElem hk, List.getElem?_eq_getElem (by omega : k - 1 < l.length)]
theorem goodAll_no (E : List UInt8 → Bool) (l : List Pt) (k : Nat) (hk : k < l.length) (h : goodFrom E l k = false) : goodAll E l = false := by
 unfold goodAll
 rw [List.all_eq_false]
 exact ⟨k, List.mem_range.2 hk, by rw [h]; simp⟩
def fewPts (l : List Pt) : Prop := ∀ x ∈ l, x.msg.sz ≤ 16777216 ∧ x.text.length ≤ 300000
def EntOk (F : Nat) (E : List UInt8 → Bool) (l : List Pt) (w : World) : Prop := ∀ x ∈ l, x.kind = 3 ∨ x.kind = 4 → ∀ W, Below w.heap.size w W → Calls Tryz.prog F #[.string ⟨x.text.toArray⟩] W (RetBool (E x.text) W)
set_option maxRecDepth 100000 in
set_option maxHeartbeats 8000000 in
theorem trValid_any (A : Option Addr) (c : Nat) (l : List Pt) (w : World) (E : List UInt8 → Bool) (hE : EntOk 60 E l w) (he : Env w) (hp : PtsIn w A l) (hf : fewPts l) (hn : l.length ≤ 1099511627776) :
    Calls Tryz.prog 12 #[.slice A l.length c] w (RetErr (vTr E l) w) := by
 have HP := hD hp
 have HE := hD hE
 have HEnv := hD he
 have HFew := hD hf
 have HB0 := hD (Below.refl w.heap.size w)
 clear hp hE he hf
 by_cases hbig : 5000 < l.length
 · have i0 : (5000 : Int) < (l.length : Int) := by omega
   have HF : Hid (vTr E l = 3) := hD (by unfold vTr; rw [if_pos hbig])
   clear hbig
   go_enter Tryz.func12, Tryz.ntmps12
   go_wp2_with fail
   go_ret
   exact ret_er HF.out HB0.out
 have i0 : ¬ ((5000 : Int) < (l.length : Int)) := by omega
 have HV : Hid (vTr E l = if goodAll E l then 0 else 1) := hD (by unfold vTr; rw [if_neg hbig])
 clear hbig
 go_enter Tryz.func12, Tryz.ntmps12
 go_wp2_with fail
 go_loopw [10] (fun i wr => ∃ k : Nat, i = .int .i64 k ∧ k ≤ l.length ∧ (List.range k).all (goodFrom E l) = true ∧ Below w.heap.size w wr) (fun i _ => l.length - (intOf i).toNat)
 case atStart => exact ⟨0, rfl, by omega, by simp, HB0.out⟩
 case round =>
  obtain ⟨k, rfl, hk, hA, hJb⟩ := hrel
  have HA := hD hA
  have HJb := hD hJb
  clear hA hJb
  by_cases hlt : k < l.length
  · have i0' : (0 : Int) ≤ (k : Int) := by omega
    have i1 : (k : Int) < (l.length : Int) := by omega
    obtain ⟨b, off, hA, hg, hcc⟩ := HP.out.at hlt
    subst hA
    obtain ⟨x, hx⟩ : ∃ x, x = l[k] := ⟨_, rfl⟩
    have HRg := hD (hcc wr HJb.out)
    rw [← hx] at HRg
    have HXe := hD hx
    have HVd : Hid (∀ W, Below w.heap.size w W → Calls Tryz.prog 36 #[.agg (ptC x).toArray] W (RetBool (goodPt E x) W)) := hD (fun W hW => by
     have hm : x ∈ l := hx ▸ List.getElem_mem hlt
     exact trValidPt_any x W E (fun h3 W' hW' => HE.out x hm h3 W' (bon hW hW')) (HEnv.out.below hW) (Pt.below (HP.out.2 x hm) hW) (HFew.out x hm).1 (HFew.out x hm).2)
    clear hcc hx
    have HX0 := hD (Vr.new wr (ptC pt0) 40)
    have HX := hD (HX0.out.sets (ptC x) rfl)
    have HBr := hD (below_gr (below_new wr (.cells (ptC pt0).toArray 40)) (grown_vs (b := wr.heap.size) (ptC x)) (Nat.le_refl _))
    go_upto_region 6 with (first
     | (refine wpList_load_mid rfl 40 _ rfl b (off + k * 28) rfl (ptC x) _ HRg.out Tryz.underlying40 rfl (infoPt x) ?_)
     | (refine wpList_store_mid rfl 40 _ _ rfl wr.heap.size 0 (ptC x).toArray rfl rfl ?_ (infoPt x) (ptC_one x) ?_; · exact HX0.out.there rfl))
    try simp only [List.toList_toArray]
    clear HX0 HRg
    change Code.wp _ _ _ _ ((wr.alloc (.cells (ptC pt0).toArray 40)).setCells wr.heap.size 0 (ptC x))
    generalize (wr.alloc (.cells (ptC pt0).toArray 40)).setCells wr.heap.size 0 (ptC x) = w3 at HX HBr ⊢
    generalize wr.heap.size = b3 at HX ⊢
    cases hq : goodPt E x with
    | false =>
     have HF : Hid (vTr E l = 1) := hD (by rw [HV.out, goodAll_no E l k hlt (by rw [goodFrom_at E l k hlt (by omega), ← HXe.out, hq]; rfl)]; rfl)
     rw [hq] at HVd
     clear hq
     refine wp_region_noPanic ?_
     have HX := hD (HX.out.below (Below.refl _ _).drew)
     have HBr := hD (HBr.out.drew)
     generalize hv : w3.drew = v0 at HX HBr
     have hS0 : World.cell? v0 ⟨b3, 0, none⟩ = some (.int .i64 x.time) ∧ World.rangeAt v0 b3 0 (ptC x) := ⟨HX.out.cells 0 _ rfl, HX.out.range⟩
     refine wp_region_held_drew (S := fun W => World.cell? W ⟨b3, 0, none⟩ = some (.int .i64 x.time) ∧ World.rangeAt W b3 0 (ptC x)) (by kernel_rfl) (by rw [hv]; exact hS0) (fun hHeld => ?_)
     rw [hv] at hHeld ⊢
     clear hv
     refine tkq 0 rfl (yieldsIf_load_mid (by rfl) 40 _ (by rfl) _ 0 (by rfl) (ptC x) _ (fun W h => h.2) Tryz.underlying40 rfl (infoPt x)) (by assumption) ?_
     try simp only [Act.put,qk1,qk2,qk3,qk4,qk6]
     refine tkr 1 rfl (fun K hK => ?_)
     go_simp
     go_at_call 36
     refine (HVd.out _ (bon HJb.out HBr.out)).mono ?_
     rintro e v1 ⟨rfl, hs⟩
     have HX := hD (HX.out.below hs)
     have HBr := hD (bon HBr.out hs)
     clear hs
     go_wp2_with fail
     have hS1 : World.cell? v1 ⟨b3, 0, none⟩ = some (.int .i64 x.time) ∧ World.rangeAt v1 b3 0 (ptC x) := ⟨HX.out.cells 0 _ rfl, HX.out.range⟩
     refine hK.out _ _ hS1 (fun hHeld => ?_)
     clear hK K
     try simp only [Act.put,qk1,qk2,qk3,qk4,qk5,qk6]
     refine tkq 2 rfl (v := ?_) (.inl ⟨by rfl, ?_⟩) (by assumption) ?_
     rotate_left
     · intro W h; (try dsimp only at h); go_simp; try with_reducible rfl
     try simp only [Act.put,qk1,qk2,qk3,qk4,qk5,qk6]
     refine tkq 3 rfl (v := ?_) (.inl ⟨by rfl, ?_⟩) (by assumption) ?_
     rotate_left
     · intro W h; (try dsimp only at h); go_simp; try with_reducible rfl
     try simp only [Act.put,qk1,qk2,qk3,qk4,qk5,qk6]
     refine tkq 4 rfl (v := undef) (.inr ⟨by rfl, rfl⟩) (by assumption) ?_
     try simp only [Act.put,qk1,qk2,qk3,qk4,qk5,qk6]
     refine tkq 5 rfl (v := undef) (.inr ⟨by rfl, rfl⟩) (by assumption) ?_
     try simp only [Act.put,qk1,qk2,qk3,qk4,qk5,qk6]
     refine tkq 6 rfl (v := undef) (.inr ⟨by rfl, rfl⟩) (by assumption) ?_
     try simp only [Act.put,qk1,qk2,qk3,qk4,qk5,qk6]
     refine tkq 7 rfl (v := undef) (.inr ⟨by rfl, rfl⟩) (by assumption) ?_
     try simp only [Act.put,qk1,qk2,qk3,qk4,qk5,qk6]
     refine tkq 8 rfl (v := undef) (.inr ⟨by rfl, rfl⟩) (by assumption) ?_
     try simp only [Act.put,qk1,qk2,qk3,qk4,qk5,qk6]
     refine tkq 9 rfl (v := undef) (.inr ⟨by rfl, rfl⟩) (by assumption) ?_
     try simp only [Act.put,qk1,qk2,qk3,qk4,qk5,qk6]
     refine tkq 10 rfl (v := undef) (.inr ⟨by rfl, rfl⟩) (by assumption) ?_
     try simp only [Act.put,qk1,qk2,qk3,qk4,qk5,qk6]
     refine tkq 11 rfl (v := undef) (.inr ⟨by rfl, rfl⟩) (by assumption) ?_
     try simp only [Act.put,qk1,qk2,qk3,qk4,qk5,qk6]
     refine tkq 12 rfl (v := undef) (.inr ⟨by rfl, rfl⟩) (by assumption) ?_
     try simp only [Act.put,qk1,qk2,qk3,qk4,qk5,qk6]
     refine tkq 13 rfl (v := undef) (.inr ⟨by rfl, rfl⟩) (by assumption) ?_
     try simp only [Act.put,qk1,qk2,qk3,qk4,qk5,qk6]
     refine tkq 14 rfl (v := undef) (.inr ⟨by rfl, rfl⟩) (by assumption) ?_
     try simp only [Act.put,qk1,qk2,qk3,qk4,qk5,qk6]
     refine tkq 15 rfl (v := undef) (.inr ⟨by rfl, rfl⟩) (by assumption) ?_
     try simp only [Act.put,qk1,qk2,qk3,qk4,qk5,qk6]
     refine tkq 16 rfl (v := undef) (.inr ⟨by rfl, rfl⟩) (by assumption) ?_
     try simp only [Act.put,qk1,qk2,qk3,qk4,qk5,qk6]
     refine tkq 17 rfl (v := ?_) (.inl ⟨by rfl, ?_⟩) (by assumption) ?_
     rotate_left
     · intro W h; (try dsimp only at h); go_simp; try with_reducible rfl
     try simp only [Act.put,qk1,qk2,qk3,qk4,qk5,qk6]
     refine wpAnyH_done (by kernel_rfl) ?_ _
     refine NoPanic.normal ?_
     clear hS0 hS1
     go_wp2_with fail
     go_ret
     exact ret_er HF.out (bon HJb.out HBr.out)
    | true =>
     rw [hq] at HVd
     rcases Nat.eq_zero_or_pos k with h0 | h0
     · have HN : Hid ((List.range (k + 1)).all (goodFrom E l) = true) := hD (by rw [goodAll_take E l k hlt, HA.out, goodFrom_at E l k hlt (by omega), ← HXe.out, hq, decide_eq_true h0]; rfl)
       subst h0
       clear hq
       refine wp_region_noPanic ?_
       have HX := hD (HX.out.below (Below.refl _ _).drew)
       have HBr := hD (HBr.out.drew)
       generalize hv : w3.drew = v0 at HX HBr
       have hS0 : World.cell? v0 ⟨b3, 0, none⟩ = some (.int .i64 x.time) ∧ World.rangeAt v0 b3 0 (ptC x) := ⟨HX.out.cells 0 _ rfl, HX.out.range⟩
       refine wp_region_held_drew (S := fun W => World.cell? W ⟨b3, 0, none⟩ = some (.int .i64 x.time) ∧ World.rangeAt W b3 0 (ptC x)) (by kernel_rfl) (by rw [hv]; exact hS0) (fun hHeld => ?_)
       rw [hv] at hHeld ⊢
       clear hv
       refine tkq 0 rfl (yieldsIf_load_mid (by rfl) 40 _ (by rfl) _ 0 (by rfl) (ptC x) _ (fun W h => h.2) Tryz.underlying40 rfl (infoPt x)) (by assumption) ?_
       try simp only [Act.put,qk1,qk2,qk3,qk4,qk6]
       refine tkr 1 rfl (fun K hK => ?_)
       go_simp
       go_at_call 36
       refine (HVd.out _ (bon HJb.out HBr.out)).mono ?_
       rintro e v1 ⟨rfl, hs⟩
       have HX := hD (HX.out.below hs)
       have HBr := hD (bon HBr.out hs)
       clear hs
       go_wp2_with fail
       have hS1 : World.cell? v1 ⟨b3, 0, none⟩ = some (.int .i64 x.time) ∧ World.rangeAt v1 b3 0 (ptC x) := ⟨HX.out.cells 0 _ rfl, HX.out.range⟩
       refine hK.out _ _ hS1 (fun hHeld => ?_)
       clear hK K
       try simp only [Act.put,qk1,qk2,qk3,qk4,qk5,qk6]
       refine tkq 2 rfl (v := ?_) (.inl ⟨by rfl, ?_⟩) (by assumption) ?_
       rotate_left
       · intro W h; (try dsimp only at h); go_simp; try with_reducible rfl
       try simp only [Act.put,qk1,qk2,qk3,qk4,qk5,qk6]
       refine tkq 3 rfl (v := ?_) (.inl ⟨by rfl, ?_⟩) (by assumption) ?_
       rotate_left
       · intro W h; (try dsimp only at h); go_simp; try with_reducible rfl
       try simp only [Act.put,qk1,qk2,qk3,qk4,qk5,qk6]
       refine tkq 4 rfl (v := ?_) (.inl ⟨by rfl, ?_⟩) (by assumption) ?_
       rotate_left
       · intro W h; (try dsimp only at h); go_simp; try with_reducible rfl
       try simp only [Act.put,qk1,qk2,qk3,qk4,qk5,qk6]
       refine tkq 5 rfl (v := ?_) (.inl ⟨by rfl, ?_⟩) (by assumption) ?_
       rotate_left
       · intro W h; (try dsimp only at h); go_simp; try with_reducible rfl
       try simp only [Act.put,qk1,qk2,qk3,qk4,qk5,qk6]
       refine tkq 6 rfl (v := ?_) (.inl ⟨by rfl, ?_⟩) (by assumption) ?_
       rotate_left
       · intro W h; (try dsimp only at h); go_simp; try with_reducible rfl
       try simp only [Act.put,qk1,qk2,qk3,qk4,qk5,qk6]
       refine tkq 7 rfl (v := undef) (.inr ⟨by rfl, rfl⟩) (by assumption) ?_
       try simp only [Act.put,qk1,qk2,qk3,qk4,qk5,qk6]
       refine tkq 8 rfl (v := undef) (.inr ⟨by rfl, rfl⟩) (by assumption) ?_
       try simp only [Act.put,qk1,qk2,qk3,qk4,qk5,qk6]
       refine tkq 9 rfl (v := undef) (.inr ⟨by rfl, rfl⟩) (by assumption) ?_
       try simp only [Act.put,qk1,qk2,qk3,qk4,qk5,qk6]
       refine tkq 10 rfl (v := undef) (.inr ⟨by rfl, rfl⟩) (by assumption) ?_
       try simp only [Act.put,qk1,qk2,qk3,qk4,qk5,qk6]
       refine tkq 11 rfl (v := undef) (.inr ⟨by rfl, rfl⟩) (by assumption) ?_
       try simp only [Act.put,qk1,qk2,qk3,qk4,qk5,qk6]
       refine tkq 12 rfl (v := undef) (.inr ⟨by rfl, rfl⟩) (by assumption) ?_
       try simp only [Act.put,qk1,qk2,qk3,qk4,qk5,qk6]
       refine tkq 13 rfl (v := undef) (.inr ⟨by rfl, rfl⟩) (by assumption) ?_
       try simp only [Act.put,qk1,qk2,qk3,qk4,qk5,qk6]
       refine tkq 14 rfl (v := undef) (.inr ⟨by rfl, rfl⟩) (by assumption) ?_
       try simp only [Act.put,qk1,qk2,qk3,qk4,qk5,qk6]
       refine tkq 15 rfl (v := undef) (.inr ⟨by rfl, rfl⟩) (by assumption) ?_
       try simp only [Act.put,qk1,qk2,qk3,qk4,qk5,qk6]
       refine tkq 16 rfl (v := ?_) (.inl ⟨by rfl, ?_⟩) (by assumption) ?_
       rotate_left
       · intro W h; (try dsimp only at h); go_simp; try with_reducible rfl
       try simp only [Act.put,qk1,qk2,qk3,qk4,qk5,qk6]
       refine tkq 17 rfl (v := ?_) (.inl ⟨by rfl, ?_⟩) (by assumption) ?_
       rotate_left
       · intro W h; (try dsimp only at h); go_simp; try with_reducible rfl
       try simp only [Act.put,qk1,qk2,qk3,qk4,qk5,qk6]
       refine wpAnyH_done (by kernel_rfl) ?_ _
       refine NoPanic.normal ?_
       clear hS0 hS1
       have HBn := hD (bon HJb.out HBr.out)
       go_wp2_with fail
       go_roundw
       case rel => exact ⟨0 + 1, by go_num, by omega, HN.out, HBn.out⟩
       case measure => simp [intOf]; omega
     · obtain ⟨j, rfl⟩ : ∃ j, k = j + 1 := ⟨k - 1, by omega⟩
       obtain ⟨y, hy⟩ : ∃ y, y = l[j] := ⟨_, rfl⟩
       have hjl : j < l.length := by omega
       have HY : Hid (∀ W, Below wr.heap.size wr W → W.cell? ⟨b, off + j * 28, none⟩ = some (.int .i64 y.time)) := hD (fun W hW => by
        obtain ⟨b', off', hA', hg', hcc'⟩ := HP.out.at hjl
        simp only [Option.some.injEq, Addr.mk.injEq] at hA'
        obtain ⟨rfl, rfl, _⟩ := hA'
        exact hcc' W (bon HJb.out hW) 0 _ (by rw [← hy]; rfl))
       have e8 : IntKind.i64.wrap ((j : Int) + 1 - 1) = (j : Int) := by rw [show (j : Int) + 1 - 1 = (j : Int) from by omega]; exact IntWalk.i64_in _ (by omega)
       have e9 : IntKind.i64.wrap (j : Int) = (j : Int) := IntWalk.i64_in _ (by omega)
       have i2 : (0 : Int) ≤ (j : Int) := by omega
       have i3 : (j : Int) < (l.length : Int) := by omega
       have i4 : (0 : Int) < (j : Int) + 1 := by omega
       have HG : Hid (goodFrom E l (j + 1) = decide (y.time ≤ x.time)) := hD (by rw [goodFrom_at E l (j + 1) hlt (by omega), ← HXe.out, hq]; simp [hy])
       clear hq hy
       by_cases ht : y.time ≤ x.time
       · have t1 : ¬ (x.time < y.time) := by omega
         have HN : Hid ((List.range (j + 1 + 1)).all (goodFrom E l) = true) := hD (by rw [goodAll_take E l (j + 1) hlt, HA.out, HG.out, decide_eq_true ht]; rfl)
         clear ht
         refine wp_region_noPanic ?_
         have HX := hD (HX.out.below (Below.refl _ _).drew)
         have HBr := hD (HBr.out.drew)
         generalize hv : w3.drew = v0 at HX HBr
         have hS0 : World.cell? v0 ⟨b3, 0, none⟩ = some (.int .i64 x.time) ∧ World.rangeAt v0 b3 0 (ptC x) ∧ World.cell? v0 ⟨b, off + j * 28, none⟩ = some (.int .i64 y.time) := ⟨HX.out.cells 0 _ rfl, HX.out.range, HY.out _ HBr.out⟩
         refine wp_region_held_drew (S := fun W => World.cell? W ⟨b3, 0, none⟩ = some (.int .i64 x.time) ∧ World.rangeAt W b3 0 (ptC x) ∧ World.cell? W ⟨b, off + j * 28, none⟩ = some (.int .i64 y.time)) (by kernel_rfl) (by rw [hv]; exact hS0) (fun hHeld => ?_)
         rw [hv] at hHeld ⊢
         clear hv
         refine tkq 0 rfl (yieldsIf_load_mid (by rfl) 40 _ (by rfl) _ 0 (by rfl) (ptC x) _ (fun W h => h.2.1) Tryz.underlying40 rfl (infoPt x)) (by assumption) ?_
         try simp only [Act.put,qk1,qk2,qk3,qk4,qk6]
         refine tkr 1 rfl (fun K hK => ?_)
         go_simp
         go_at_call 36
         refine (HVd.out _ (bon HJb.out HBr.out)).mono ?_
         rintro e v1 ⟨rfl, hs⟩
         have HX := hD (HX.out.below hs)
         have HBr := hD (bon HBr.out hs)
         clear hs
         go_wp2_with fail
         have hS1 : World.cell? v1 ⟨b3, 0, none⟩ = some (.int .i64 x.time) ∧ World.rangeAt v1 b3 0 (ptC x) ∧ World.cell? v1 ⟨b, off + j * 28, none⟩ = some (.int .i64 y.time) := ⟨HX.out.cells 0 _ rfl, HX.out.range, HY.out _ HBr.out⟩
         refine hK.out _ _ hS1 (fun hHeld => ?_)
         clear hK K
         try simp only [Act.put,qk1,qk2,qk3,qk4,qk5,qk6]
         refine tkq 2 rfl (v := ?_) (.inl ⟨by rfl, ?_⟩) (by assumption) ?_
         rotate_left
         · intro W h; (try dsimp only at h); go_simp; try with_reducible rfl
         try simp only [Act.put,qk1,qk2,qk3,qk4,qk5,qk6]
         refine tkq 3 rfl (v := ?_) (.inl ⟨by rfl, ?_⟩) (by assumption) ?_
         rotate_left
         · intro W h; (try dsimp only at h); go_simp; try with_reducible rfl
         try simp only [Act.put,qk1,qk2,qk3,qk4,qk5,qk6]
         refine tkq 4 rfl (v := ?_) (.inl ⟨by rfl, ?_⟩) (by assumption) ?_
         rotate_left
         · intro W h; (try dsimp only at h); go_simp; try with_reducible rfl
         try simp only [Act.put,qk1,qk2,qk3,qk4,qk5,qk6]
         refine tkq 5 rfl (v := ?_) (.inl ⟨by rfl, ?_⟩) (by assumption) ?_
         rotate_left
         · intro W h; (try dsimp only at h); go_simp; try with_reducible rfl
         try simp only [Act.put,qk1,qk2,qk3,qk4,qk5,qk6]
         refine tkq 6 rfl (v := ?_) (.inl ⟨by rfl, ?_⟩) (by assumption) ?_
         rotate_left
         · intro W h; (try dsimp only at h); go_simp; try with_reducible rfl
         try simp only [Act.put,qk1,qk2,qk3,qk4,qk5,qk6]
         refine tkq 7 rfl (v := ?_) (.inl ⟨by rfl, ?_⟩) (by assumption) ?_
         rotate_left
         · intro W h; (try dsimp only at h); go_simp; try with_reducible rfl
         try simp only [Act.put,qk1,qk2,qk3,qk4,qk5,qk6]
         refine tkq 8 rfl (v := ?_) (.inl ⟨by rfl, ?_⟩) (by assumption) ?_
         rotate_left
         · intro W h; (try dsimp only at h); go_simp; try with_reducible rfl
         try simp only [Act.put,qk1,qk2,qk3,qk4,qk5,qk6]
         refine tkq 9 rfl (v := ?_) (.inl ⟨by rfl, ?_⟩) (by assumption) ?_
         rotate_left
         · intro W h; (try dsimp only at h); go_simp; try with_reducible rfl
         try simp only [Act.put,qk1,qk2,qk3,qk4,qk5,qk6]
         refine tkq 10 rfl (v := ?_) (.inl ⟨by rfl, ?_⟩) (by assumption) ?_
         rotate_left
         · intro W h; (try dsimp only at h); go_simp; try with_reducible rfl
         try simp only [Act.put,qk1,qk2,qk3,qk4,qk5,qk6]
         refine tkq 11 rfl (v := ?_) (.inl ⟨by rfl, ?_⟩) (by assumption) ?_
         rotate_left
         · intro W h; (try dsimp only at h); go_simp; try with_reducible rfl
         try simp only [Act.put,qk1,qk2,qk3,qk4,qk5,qk6]
         refine tkq 12 rfl (v := ?_) (.inl ⟨by rfl, ?_⟩) (by assumption) ?_
         rotate_left
         · intro W h; (try dsimp only at h); go_simp; try with_reducible rfl
         try simp only [Act.put,qk1,qk2,qk3,qk4,qk5,qk6]
         refine tkq 13 rfl (v := ?_) (.inl ⟨by rfl, ?_⟩) (by assumption) ?_
         rotate_left
         · intro W h; (try dsimp only at h); go_simp; try with_reducible rfl
         try simp only [Act.put,qk1,qk2,qk3,qk4,qk5,qk6]
         refine tkq 14 rfl (v := ?_) (.inl ⟨by rfl, ?_⟩) (by assumption) ?_
         rotate_left
         · intro W h; (try dsimp only at h); go_simp; try with_reducible rfl
         try simp only [Act.put,qk1,qk2,qk3,qk4,qk5,qk6]
         refine tkq 15 rfl (v := ?_) (.inl ⟨by rfl, ?_⟩) (by assumption) ?_
         rotate_left
         · intro W h; (try dsimp only at h); go_simp; try with_reducible rfl
         try simp only [Act.put,qk1,qk2,qk3,qk4,qk5,qk6]
         refine tkq 16 rfl (v := ?_) (.inl ⟨by rfl, ?_⟩) (by assumption) ?_
         rotate_left
         · intro W h; (try dsimp only at h); go_simp; try with_reducible rfl
         try simp only [Act.put,qk1,qk2,qk3,qk4,qk5,qk6]
         refine tkq 17 rfl (v := ?_) (.inl ⟨by rfl, ?_⟩) (by assumption) ?_
         rotate_left
         · intro W h; (try dsimp only at h); go_simp; try with_reducible rfl
         try simp only [Act.put,qk1,qk2,qk3,qk4,qk5,qk6]
         refine wpAnyH_done (by kernel_rfl) ?_ _
         refine NoPanic.normal ?_
         clear hS0 hS1
         have HBn := hD (bon HJb.out HBr.out)
         go_wp2_with fail
         go_roundw
         case rel => exact ⟨(j + 1) + 1, by go_num, by omega, HN.out, HBn.out⟩
         case measure => simp [intOf]; omega
       · have t1 : x.time < y.time := by omega
         have HF : Hid (vTr E l = 1) := hD (by rw [HV.out, goodAll_no E l (j + 1) hlt (by rw [HG.out, decide_eq_false ht])]; rfl)
         clear ht
         refine wp_region_noPanic ?_
         have HX := hD (HX.out.below (Below.refl _ _).drew)
         have HBr := hD (HBr.out.drew)
         generalize hv : w3.drew = v0 at HX HBr
         have hS0 : World.cell? v0 ⟨b3, 0, none⟩ = some (.int .i64 x.time) ∧ World.rangeAt v0 b3 0 (ptC x) ∧ World.cell? v0 ⟨b, off + j * 28, none⟩ = some (.int .i64 y.time) := ⟨HX.out.cells 0 _ rfl, HX.out.range, HY.out _ HBr.out⟩
         refine wp_region_held_drew (S := fun W => World.cell? W ⟨b3, 0, none⟩ = some (.int .i64 x.time) ∧ World.rangeAt W b3 0 (ptC x) ∧ World.cell? W ⟨b, off + j * 28, none⟩ = some (.int .i64 y.time)) (by kernel_rfl) (by rw [hv]; exact hS0) (fun hHeld => ?_)
         rw [hv] at hHeld ⊢
         clear hv
         refine tkq 0 rfl (yieldsIf_load_mid (by rfl) 40 _ (by rfl) _ 0 (by rfl) (ptC x) _ (fun W h => h.2.1) Tryz.underlying40 rfl (infoPt x)) (by assumption) ?_
         try simp only [Act.put,qk1,qk2,qk3,qk4,qk6]
         refine tkr 1 rfl (fun K hK => ?_)
         go_simp
         go_at_call 36
         refine (HVd.out _ (bon HJb.out HBr.out)).mono ?_
         rintro e v1 ⟨rfl, hs⟩
         have HX := hD (HX.out.below hs)
         have HBr := hD (bon HBr.out hs)
         clear hs
         go_wp2_with fail
         have hS1 : World.cell? v1 ⟨b3, 0, none⟩ = some (.int .i64 x.time) ∧ World.rangeAt v1 b3 0 (ptC x) ∧ World.cell? v1 ⟨b, off + j * 28, none⟩ = some (.int .i64 y.time) := ⟨HX.out.cells 0 _ rfl, HX.out.range, HY.out _ HBr.out⟩
         refine hK.out _ _ hS1 (fun hHeld => ?_)
         clear hK K
         try simp only [Act.put,qk1,qk2,qk3,qk4,qk5,qk6]
         refine tkq 2 rfl (v := ?_) (.inl ⟨by rfl, ?_⟩) (by assumption) ?_
         rotate_left
         · intro W h; (try dsimp only at h); go_simp; try with_reducible rfl
         try simp only [Act.put,qk1,qk2,qk3,qk4,qk5,qk6]
         refine tkq 3 rfl (v := ?_) (.inl ⟨by rfl, ?_⟩) (by assumption) ?_
         rotate_left
         · intro W h; (try dsimp only at h); go_simp; try with_reducible rfl
         try simp only [Act.put,qk1,qk2,qk3,qk4,qk5,qk6]
         refine tkq 4 rfl (v := ?_) (.inl ⟨by rfl, ?_⟩) (by assumption) ?_
         rotate_left
         · intro W h; (try dsimp only at h); go_simp; try with_reducible rfl
         try simp only [Act.put,qk1,qk2,qk3,qk4,qk5,qk6]
         refine tkq 5 rfl (v := ?_) (.inl ⟨by rfl, ?_⟩) (by assumption) ?_
         rotate_left
         · intro W h; (try dsimp only at h); go_simp; try with_reducible rfl
         try simp only [Act.put,qk1,qk2,qk3,qk4,qk5,qk6]
         refine tkq 6 rfl (v := ?_) (.inl ⟨by rfl, ?_⟩) (by assumption) ?_
         rotate_left
         · intro W h; (try dsimp only at h); go_simp; try with_reducible rfl
         try simp only [Act.put,qk1,qk2,qk3,qk4,qk5,qk6]
         refine tkq 7 rfl (v := ?_) (.inl ⟨by rfl, ?_⟩) (by assumption) ?_
         rotate_left
         · intro W h; (try dsimp only at h); go_simp; try with_reducible rfl
         try simp only [Act.put,qk1,qk2,qk3,qk4,qk5,qk6]
         refine tkq 8 rfl (v := ?_) (.inl ⟨by rfl, ?_⟩) (by assumption) ?_
         rotate_left
         · intro W h; (try dsimp only at h); go_simp; try with_reducible rfl
         try simp only [Act.put,qk1,qk2,qk3,qk4,qk5,qk6]
         refine tkq 9 rfl (v := ?_) (.inl ⟨by rfl, ?_⟩) (by assumption) ?_
         rotate_left
         · intro W h; (try dsimp only at h); go_simp; try with_reducible rfl
         try simp only [Act.put,qk1,qk2,qk3,qk4,qk5,qk6]
         refine tkq 10 rfl (v := ?_) (.inl ⟨by rfl, ?_⟩) (by assumption) ?_
         rotate_left
         · intro W h; (try dsimp only at h); go_simp; try with_reducible rfl
         try simp only [Act.put,qk1,qk2,qk3,qk4,qk5,qk6]
         refine tkq 11 rfl (v := ?_) (.inl ⟨by rfl, ?_⟩) (by assumption) ?_
         rotate_left
         · intro W h; (try dsimp only at h); go_simp; try with_reducible rfl
         try simp only [Act.put,qk1,qk2,qk3,qk4,qk5,qk6]
         refine tkq 12 rfl (v := ?_) (.inl ⟨by rfl, ?_⟩) (by assumption) ?_
         rotate_left
         · intro W h; (try dsimp only at h); go_simp; try with_reducible rfl
         try simp only [Act.put,qk1,qk2,qk3,qk4,qk5,qk6]
         refine tkq 13 rfl (v := ?_) (.inl ⟨by rfl, ?_⟩) (by assumption) ?_
         rotate_left
         · intro W h; (try dsimp only at h); go_simp; try with_reducible rfl
         try simp only [Act.put,qk1,qk2,qk3,qk4,qk5,qk6]
         refine tkq 14 rfl (v := ?_) (.inl ⟨by rfl, ?_⟩) (by assumption) ?_
         rotate_left
         · intro W h; (try dsimp only at h); go_simp; try with_reducible rfl
         try simp only [Act.put,qk1,qk2,qk3,qk4,qk5,qk6]
         refine tkq 15 rfl (v := ?_) (.inl ⟨by rfl, ?_⟩) (by assumption) ?_
         rotate_left
         · intro W h; (try dsimp only at h); go_simp; try with_reducible rfl
         try simp only [Act.put,qk1,qk2,qk3,qk4,qk5,qk6]
         refine tkq 16 rfl (v := ?_) (.inl ⟨by rfl, ?_⟩) (by assumption) ?_
         rotate_left
         · intro W h; (try dsimp only at h); go_simp; try with_reducible rfl
         try simp only [Act.put,qk1,qk2,qk3,qk4,qk5,qk6]
         refine tkq 17 rfl (v := ?_) (.inl ⟨by rfl, ?_⟩) (by assumption) ?_
         rotate_left
         · intro W h; (try dsimp only at h); go_simp; try with_reducible rfl
         try simp only [Act.put,qk1,qk2,qk3,qk4,qk5,qk6]
         refine wpAnyH_done (by kernel_rfl) ?_ _
         refine NoPanic.normal ?_
         clear hS0 hS1
         go_wp2_with fail
         go_ret
         exact ret_er HF.out (bon HJb.out HBr.out)
  · obtain rfl : k = l.length := by omega
    have HF : Hid (vTr E l = 0) := hD (by
     have h : goodAll E l = true := HA.out
     rw [HV.out, h]; rfl)
    go_wp2_with fail
    go_ret
    exact ret_er HF.out HJb.out
end Go.Proofs.YtepbbaifpckcpaaGreatDoor
