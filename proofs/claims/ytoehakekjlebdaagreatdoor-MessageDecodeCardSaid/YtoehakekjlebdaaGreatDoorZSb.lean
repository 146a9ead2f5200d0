/- message.part and message.parts at signatures. -/
import Derived.Test.YtoehakekjlebdaaGreatDoorZSa
import Derived.Deep.Cut
import Derived.Deep.CutRange
namespace Go.Proofs.YtoehakekjlebdaaGreatDoor
open Go.RowKit

theorem infoSgn (x : Sg) : (Tryz.prog.info? 24).map (·.size) = some (sgC x).length := by
  have : (Tryz.prog.info? 24).map (·.size) = some 6 := by kernel_rfl
  exact this
theorem sgC_one' (x : Sg) : (sgC x).toArray.all (·.oneCell') = true := by simp [sgC, Value.oneCell']
set_option maxRecDepth 100000 in
set_option maxHeartbeats 1000000 in
theorem partSg_any (g : Nat) (s : Sc) (t : List UInt8) (w : World) (hs : Ss w g s)
    (HF : ∀ q W, Ss W q ⟨t, false⟩ → Calls Tryz.prog 68 #[.pointer (some ⟨q, 0, none⟩)] W (RetX sgC id (fun x _ => x.ok) q (tkSg ⟨t, false⟩) W)) :
    Calls Tryz.prog 69 #[.pointer (some ⟨g, 0, none⟩), .string ⟨t.toArray⟩, .func (.func 68) #[] #[]] w (RetX sgC id (fun x _ => x.ok) g (tkPart tkSg t s) w) := by
  obtain ⟨r, b⟩ := s
  have hgl := hs.lt
  obtain ⟨y, hy⟩ : ∃ y, y = tkSg ⟨t, false⟩ := ⟨_, rfl⟩
  obtain ⟨y1, r', b'⟩ := y
  have HR : Hid (tkPart tkSg t ⟨r, b⟩ = (y1, ⟨r, b || b' || !r'.isEmpty⟩)) := Lib.hid (by unfold tkPart; rw [← hy])
  have HFX := Lib.hid HF
  have HY := Lib.hid hy
  have HV0 := Lib.hid (Vr.new w [.int .i64 0, .int .i64 0, .int .i64 0, .int .i64 0, .string ⟨#[]⟩, .string ⟨#[]⟩] 24)
  have HV1 := Lib.hid (HV0.out.below (below_new (w.alloc (.cells #[.int .i64 0, .int .i64 0, .int .i64 0, .int .i64 0, .string ⟨#[]⟩, .string ⟨#[]⟩] 24)) (.cells #[.string ⟨t.toArray⟩, .bool false] 58)))
  have HS1 := Lib.hid (((SsTo.refl hs).alloc (.cells #[.int .i64 0, .int .i64 0, .int .i64 0, .int .i64 0, .string ⟨#[]⟩, .string ⟨#[]⟩] 24)).alloc (.cells #[.string ⟨t.toArray⟩, .bool false] 58))
  have HQ1 := Lib.hid (Ss.new' (w.alloc (.cells #[.int .i64 0, .int .i64 0, .int .i64 0, .int .i64 0, .string ⟨#[]⟩, .string ⟨#[]⟩] 24)) t false 58 (g := w.heap.size + 1) (by simp))
  have HZ1 : Hid (((w.alloc (.cells #[.int .i64 0, .int .i64 0, .int .i64 0, .int .i64 0, .string ⟨#[]⟩, .string ⟨#[]⟩] 24)).alloc (.cells #[.string ⟨t.toArray⟩, .bool false] 58)).heap.size = w.heap.size + 2) := Lib.hid (by simp)
  clear hs hy HF HV0
  go_enter Tryz.func69, Tryz.ntmps69
  go_wp2_with fail
  refine (HFX.out (w.heap.size + 1) _ HQ1.out).mono ?_
  rintro e w2 ⟨x, he, hx, hst, hss⟩
  rw [← HY.out] at hss hx
  obtain rfl : e = .returned (.agg #[.int .i64 x.server, .int .i64 x.kind, .int .i64 x.view, .int .i64 x.slot, .string ⟨x.digest.toArray⟩, .string ⟨x.sig.toArray⟩]) := he
  rw [HZ1.out] at hst
  have h2 := hss.1.size
  rw [HZ1.out] at h2
  have HV2 := Lib.hid ((HV1.out.grown hss.1 (by omega)).below (below_new w2 (.cells #[.int .i64 x.server, .int .i64 x.kind, .int .i64 x.view, .int .i64 x.slot, .string ⟨x.digest.toArray⟩, .string ⟨x.sig.toArray⟩] 24)))
  have HS2 := Lib.hid ((HS1.out.own hss.1 (by omega) (by omega)).alloc (.cells #[.int .i64 x.server, .int .i64 x.kind, .int .i64 x.view, .int .i64 x.slot, .string ⟨x.digest.toArray⟩, .string ⟨x.sig.toArray⟩] 24))
  have HQ2 := Lib.hid (hss.2.alloc (.cells #[.int .i64 x.server, .int .i64 x.kind, .int .i64 x.view, .int .i64 x.slot, .string ⟨x.digest.toArray⟩, .string ⟨x.sig.toArray⟩] 24))
  have HX2 := Lib.hid (Vr.new w2 (sgC x) 24)
  have HT2 := Lib.hid (hst.on (keeps_below _ (below_new w2 (.cells #[.int .i64 x.server, .int .i64 x.kind, .int .i64 x.view, .int .i64 x.slot, .string ⟨x.digest.toArray⟩, .string ⟨x.sig.toArray⟩] 24))))
  have HX := Lib.hid hx
  clear hx hst hss HV1 HS1 HQ1 HZ1
  go_upto_region 3 with fail
  generalize hw3 : w2.alloc (.cells #[.int .i64 x.server, .int .i64 x.kind, .int .i64 x.view, .int .i64 x.slot, .string ⟨x.digest.toArray⟩, .string ⟨x.sig.toArray⟩] 24) = w3 at HV2 HS2 HQ2 HT2
  have HX3 : Hid (Vr w3 w2.heap.size (sgC x)) := Lib.hid (hw3 ▸ HX2.out)
  try rw [hw3]
  clear hw3 HX2
  have c1 := HS2.out.2.c1
  have f1 := HS2.out.2.f1
  have dl := HS2.out.2.lt
  have q0 := HQ2.out.c0
  have q1 := HQ2.out.c1
  have ql := HQ2.out.lt
  simp only at c1 q0 q1
  have HVz : Hid (∀ v : Bool, Vr (w3.setCell ⟨g, 1, none⟩ (.bool v)) w.heap.size [.int .i64 0, .int .i64 0, .int .i64 0, .int .i64 0, .string ⟨#[]⟩, .string ⟨#[]⟩]) := Lib.hid (fun v => HV2.out.grown (grown_set w3 ⟨g, 1, none⟩ (.bool v)) (by show w.heap.size ≠ g; omega))
  have HXz : Hid (∀ v : Bool, Vr (w3.setCell ⟨g, 1, none⟩ (.bool v)) w2.heap.size (sgC x)) := Lib.hid (fun v => HX3.out.grown (grown_set w3 ⟨g, 1, none⟩ (.bool v)) (by show w2.heap.size ≠ g; omega))
  have HFin : Hid (∀ v : Bool, v = (b || b' || !r'.isEmpty) → RetX sgC id (fun x _ => x.ok) g (tkPart tkSg t ⟨r, b⟩) w (.returned (.agg (sgC x).toArray)) ((w3.setCell ⟨g, 1, none⟩ (.bool v)).setCells w.heap.size 0 (sgC x))) := Lib.hid (fun v hv =>
    ret_x HR.out rfl HX.out (((HT2.out.on (keeps_grown (grown_set w3 ⟨g, 1, none⟩ (.bool v)) (by show g < w.heap.size + 2; omega))).on (keeps_grown (grown_vs (b := w.heap.size) (sgC x)) (by omega))).low (by omega))
      (((HS2.out.set1 v).own (grown_vs (b := w.heap.size) (sgC x)) (Nat.le_refl _) (by omega)).eq (by rw [hv])))
  cases b
  · cases b'
    · cases r'
      · go_wp2_with (first
          | (refine wpList_load_mid rfl 24 _ rfl w2.heap.size 0 rfl (sgC x) _ (HXz.out false).range Tryz.underlying24 rfl (infoSgn x) ?_)
          | (refine wpList_store_mid rfl 24 _ _ rfl w.heap.size 0 (sgC x).toArray rfl rfl ((HVz.out false).there rfl) (infoSgn x) (sgC_one' x) ?_))
        refine bodyPost_ret (v := .agg (sgC x).toArray) ?_ rfl (HFin.out false rfl)
        exact results_mid Tryz.results69 _ _ w.heap.size (sgC x) _ rfl ((HVz.out false).sets (sgC x) rfl).range Tryz.underlying24 rfl (infoSgn x)
      · go_wp2_with (first
          | (refine wpList_load_mid rfl 24 _ rfl w2.heap.size 0 rfl (sgC x) _ (HXz.out true).range Tryz.underlying24 rfl (infoSgn x) ?_)
          | (refine wpList_store_mid rfl 24 _ _ rfl w.heap.size 0 (sgC x).toArray rfl rfl ((HVz.out true).there rfl) (infoSgn x) (sgC_one' x) ?_))
        refine bodyPost_ret (v := .agg (sgC x).toArray) ?_ rfl (HFin.out true rfl)
        exact results_mid Tryz.results69 _ _ w.heap.size (sgC x) _ rfl ((HVz.out true).sets (sgC x) rfl).range Tryz.underlying24 rfl (infoSgn x)
    · go_wp2_with (first
        | (refine wpList_load_mid rfl 24 _ rfl w2.heap.size 0 rfl (sgC x) _ (HXz.out true).range Tryz.underlying24 rfl (infoSgn x) ?_)
        | (refine wpList_store_mid rfl 24 _ _ rfl w.heap.size 0 (sgC x).toArray rfl rfl ((HVz.out true).there rfl) (infoSgn x) (sgC_one' x) ?_))
      refine bodyPost_ret (v := .agg (sgC x).toArray) ?_ rfl (HFin.out true rfl)
      exact results_mid Tryz.results69 _ _ w.heap.size (sgC x) _ rfl ((HVz.out true).sets (sgC x) rfl).range Tryz.underlying24 rfl (infoSgn x)
  · go_wp2_with (first
      | (refine wpList_load_mid rfl 24 _ rfl w2.heap.size 0 rfl (sgC x) _ (HXz.out true).range Tryz.underlying24 rfl (infoSgn x) ?_)
      | (refine wpList_store_mid rfl 24 _ _ rfl w.heap.size 0 (sgC x).toArray rfl rfl ((HVz.out true).there rfl) (infoSgn x) (sgC_one' x) ?_))
    refine bodyPost_ret (v := .agg (sgC x).toArray) ?_ rfl (HFin.out true (by simp))
    exact results_mid Tryz.results69 _ _ w.heap.size (sgC x) _ rfl ((HVz.out true).sets (sgC x) rfl).range Tryz.underlying24 rfl (infoSgn x)
theorem infoSgr : (Tryz.prog.info? 24).map (fun i => (i.zero, i.size, i.bytes)) = some (some (.agg #[.int .i64 0, .int .i64 0, .int .i64 0, .int .i64 0, .string ⟨#[]⟩, .string ⟨#[]⟩]), 6, 64) := by kernel_rfl
set_option maxRecDepth 100000 in
set_option maxHeartbeats 1000000 in
theorem partsSg_any (g : Nat) (s : Sc) (w : World) (hs : Ss w g s) (hl : s.rest.length ≤ 268435456)
    (HF : ∀ t : List UInt8, t.length ≤ s.rest.length → ∀ q W, Ss W q ⟨t, false⟩ → Calls Tryz.prog 68 #[.pointer (some ⟨q, 0, none⟩)] W (RetX sgC id (fun x _ => x.ok) q (tkSg ⟨t, false⟩) W)) :
    Calls Tryz.prog 67 #[.pointer (some ⟨g, 0, none⟩), .func (.func 68) #[] #[]] w (RetXs 6 sgC id (fun x _ => x.ok) g (tkParts tkSg s) w) := by
  have hgl := hs.lt
  have hz := tkTexts_sz s
  have HTx := Lib.hid (texts_any g s w hs (Nat.le_trans hl (by decide)))
  obtain ⟨p, hp⟩ : ∃ p, p = tkTexts s := ⟨_, rfl⟩
  have HR : Hid (tkParts tkSg s = tkAll tkSg p.1 p.2) := Lib.hid (by rw [hp]; rfl)
  rw [← hp] at HTx hz
  obtain ⟨l, s1⟩ := p
  simp only at hz HTx HR
  have hln : l.length ≤ 268435456 := by have := sum_ge szS l 1 szS_ge; omega
  have HP : Hid (∀ t ∈ l, ∀ s' W, Ss W g s' → Calls Tryz.prog 69 #[.pointer (some ⟨g, 0, none⟩), .string ⟨t.toArray⟩, .func (.func 68) #[] #[]] W (RetX sgC id (fun x _ => x.ok) g (tkPart tkSg t s') W)) :=
    Lib.hid (fun t ht s' W hW => partSg_any g s' t W hW (HF t (by have := sum_get szS l t ht; unfold szS at this hz; omega)))
  obtain ⟨i0, hi, hz0, hz1, hz2⟩ := info_parts infoSgr
  have HI := Lib.hid hi
  have HZ0 := Lib.hid hz0
  have HZ1 := Lib.hid hz1
  have HZ2 := Lib.hid hz2
  clear hi hz0 hz1 hz2 hs HF hp hz
  go_enter Tryz.func67, Tryz.ntmps67
  go_wp2_with fail
  refine HTx.out.mono ?_
  rintro e w1 ⟨A, c, rfl, hr, h⟩
  have HSt := Lib.hid (PtSt.start (T := 24) (k := 6) (C := sgC) (er := id) (ok := (fun x _ => x.ok)) (tk := tkSg) hr h)
  have hB : w.heap.size ≤ w1.heap.size := h.1.size
  clear hr h
  simp only
  go_wp2_with fail
  go_loopw [5, 11] (fun o i wr => ∃ (j : Nat) (xs : List Sg) (sj : Sc) (F : Nat → Prop), i = .int .i64 j ∧ j ≤ l.length ∧ PtSt 24 6 sgC id (fun x _ => x.ok) tkSg w w1.heap.size g A l s1 j o xs sj F wr) (fun _ i _ => l.length - (intOf i).toNat)
  case atStart => exact ⟨0, [], s1, _, rfl, by omega, HSt.out⟩
  case round =>
    obtain ⟨j, xs, sj, F, rfl, hj, hst⟩ := hrel
    have HJ := Lib.hid hst
    clear hst
    by_cases hlt : j < l.length
    · have i0' : (0 : Int) ≤ (j : Int) := by omega
      have i1 : (j : Int) < (l.length : Int) := by omega
      obtain ⟨b, off, hA, hbl, hcc⟩ := HJ.out.foot.out.1.cells (by rw [strC_len]; omega)
      subst hA
      obtain ⟨t, ht⟩ : ∃ t, t = l[j] := ⟨_, rfl⟩
      have a0 : wr.cell? ⟨b, off + j, none⟩ = some (.string ⟨t.toArray⟩) := hcc j _ (by unfold strC; rw [List.getElem?_map, List.getElem?_eq_getElem hlt, ht]; rfl)
      have HTt := Lib.hid ht
      have HM := Lib.hid (ht ▸ List.getElem_mem hlt : t ∈ l)
      clear ht hcc
      go_wp2_with fail
      refine (HP.out t HM.out sj wr HJ.out.src.2).mono ?_
      rintro e w2 ⟨x, he, hx, hstx, hs2⟩
      obtain rfl : e = .returned (.agg #[.int .i64 x.server, .int .i64 x.kind, .int .i64 x.view, .int .i64 x.slot, .string ⟨x.digest.toArray⟩, .string ⟨x.sig.toArray⟩]) := he
      have HO2 := Lib.hid (HJ.out.row (by omega) hs2)
      have hz2 : wr.heap.size ≤ w2.heap.size := hs2.1.size
      have hz3 : w1.heap.size ≤ wr.heap.size := HJ.out.size
      have HX := Lib.hid hx
      have HTX := Lib.hid hstx
      have HS2 := Lib.hid hs2
      clear hx hstx hs2 a0
      go_wp2_with (at_builtin; refine wpList_append_own_at _ rfl _ _ 22 rfl w1.heap.size 24 i0 _ 6 64 Tryz.underlying22 HI.out HZ0.out HZ1.out HZ2.out rfl (by decide) _ _ _ rfl (HO2.out.alloc _) ⟨w2.heap.size, 0, none⟩ 1 1 [.int .i64 x.server, .int .i64 x.kind, .int .i64 x.view, .int .i64 x.slot, .string ⟨x.digest.toArray⟩, .string ⟨x.sig.toArray⟩] rfl rfl (cell_new _ _ _ _ rfl) (by simp [Value.oneCell']) (by simp [maxLen]; omega) (by omega) (by simp; omega) ?_)
      intro v' w4 hown' hgrow _ hat
      have HN : Hid (PtSt 24 6 sgC id (fun x _ => x.ok) tkSg w w1.heap.size g (some ⟨b, off, none⟩) l s1 (j + 1) v' (xs ++ [x]) (tkPart tkSg l[j] sj).2 (fun i => F i ∨ (wr.heap.size ≤ i ∧ i < w2.heap.size)) w4) := Lib.hid
        (HJ.out.step hgl hB hlt (by rw [HX.out, HTt.out]) HTX.out (by rw [← HTt.out]; exact HS2.out) (below_new w2 (.cells #[.int .i64 x.server, .int .i64 x.kind, .int .i64 x.view, .int .i64 x.slot, .string ⟨x.digest.toArray⟩, .string ⟨x.sig.toArray⟩] 24)) (by simp) hown' hgrow hat)
      clear hown' hgrow hat
      go_wp2_with fail
      go_roundw
      case rel => exact ⟨j + 1, xs ++ [x], _, _, by go_num, by omega, HN.out⟩
      case measure => simp [intOf]; omega
    · obtain rfl : j = l.length := by omega
      obtain ⟨a, c', rfl, hret⟩ := HJ.out.done hB
      have HRet := Lib.hid hret
      clear hret
      go_wp2_with fail
      go_ret
      rw [HR.out]
      exact HRet.out
end Go.Proofs.YtoehakekjlebdaaGreatDoor
/- message.readEntry. -/
namespace Go.Proofs.YtoehakekjlebdaaGreatDoor
open Go.RowKit

theorem infoDen (x : De) : (Tryz.prog.info? 78).map (·.size) = some (deC x).length := by
  have : (Tryz.prog.info? 78).map (·.size) = some 3 := by kernel_rfl
  exact this
theorem deC_one' (x : De) : (deC x).toArray.all (·.oneCell') = true := by simp [deC, Sl.v, Value.oneCell']
set_option maxRecDepth 100000 in
set_option maxHeartbeats 1000000 in
theorem readEntry_any (g : Nat) (s : Sc) (w : World) (hs : Ss w g s) (hl : s.rest.length ≤ 268435456) :
    Calls Tryz.prog 81 #[.pointer (some ⟨g, 0, none⟩)] w (RetX deC De.er De.ok g (tkDe s) w) := by
  have hgl := hs.lt
  have HTn := tkInts_ok 1 s
  obtain ⟨n0, hn⟩ := one_of _ HTn.1
  obtain ⟨s0, hs0⟩ : ∃ s0, s0 = (tkInts 1 s).2 := ⟨_, rfl⟩
  have HT0 : Hid (tkInts 1 s = ([n0], s0)) := Lib.hid (by rw [hs0, ← hn])
  have HN64 : Hid (∀ x ∈ [n0], I64 x) := Lib.hid (by rw [← hn]; exact HTn.2)
  have HL0 : Hid (s0.rest.length ≤ 268435456) := Lib.hid (by rw [hs0]; exact Nat.le_trans (tkInts_rest 1 s) hl)
  clear HTn hn hs0
  obtain ⟨t1, s1, ht1⟩ : ∃ t s', tkText s0 = (t, s') := ⟨_, _, rfl⟩
  have HL1 : Hid (s1.rest.length ≤ 268435456) := Lib.hid (by have h9 := ag_text.len s0; rw [ht1] at h9; exact Nat.le_trans h9 HL0.out)
  have HT1 := Lib.hid ht1
  clear ht1
  obtain ⟨t2, s2, ht2⟩ : ∃ t s', tkParts tkSg s1 = (t, s') := ⟨_, _, rfl⟩
  have HL2 : Hid (s2.rest.length ≤ 268435456) := Lib.hid (by have h9 := (ag_parts ag_sg).len s1; rw [ht2] at h9; exact Nat.le_trans h9 HL1.out)
  have HT2 := Lib.hid ht2
  clear ht2
  have HSpec : Hid (tkDe s = (⟨n0, t1, Sl.of t2⟩, s2)) := Lib.hid (by
    unfold tkDe tkThen tkRet
    simp only [HT0.out, HT1.out, HT2.out]
    rfl)
  have HVw := Lib.hid (Vr.new w [.int .i64 0, .string ⟨#[]⟩, .slice none 0 0] 78)
  have HSw := Lib.hid ((SsTo.refl hs).below (((below_new w (.cells #[.int .i64 0, .string ⟨#[]⟩, .slice none 0 0] 78))).drew))
  have HVd := Lib.hid (HVw.out.below (Below.refl _ _).drew)
  have hzd : (w.alloc (.cells #[.int .i64 0, .string ⟨#[]⟩, .slice none 0 0] 78)).drew.heap.size = w.heap.size + 1 := by simp
  have HZd := Lib.hid hzd
  clear hs HVw hzd
  go_enter Tryz.func81, Tryz.ntmps81
  go_wp2_with fail
  refine wp_region_noPanic ?_
  refine wp_region_held_drew (S := fun W => True) (by kernel_rfl) trivial (fun hHeld => ?_)
  refine wpAnyH_take (i := 0) (oi := _) (v := ?_) rfl (by kernel_rfl) (by kernel_rfl) (by kernel_rfl) (fun _ _ _ h => h) (Or.inl ⟨by rfl, ?_⟩) (by assumption) ?_
  rotate_left
  · intro W hSw; (try dsimp only at hSw); go_simp; try with_reducible rfl
  try simp only [Act.put, List.setIfInBounds_toArray]
  refine wpAnyH_take (i := 4) (oi := _) (v := ?_) rfl (by kernel_rfl) (by kernel_rfl) (by kernel_rfl) (fun _ _ _ h => h) (Or.inl ⟨by rfl, ?_⟩) (by assumption) ?_
  rotate_left
  · intro W hSw; (try dsimp only at hSw); go_simp; try with_reducible rfl
  try simp only [Act.put]
  refine wpAnyH_take (i := 6) (oi := _) (v := ?_) rfl (by kernel_rfl) (by kernel_rfl) (by kernel_rfl) (fun _ _ _ h => h) (Or.inl ⟨by rfl, ?_⟩) (by assumption) ?_
  rotate_left
  · intro W hSw; (try dsimp only at hSw); go_simp; try with_reducible rfl
  try simp only [Act.put]
  refine wpAnyH_ready (rs := [1]) (by kernel_rfl) (by simp) ?_
  refine AllReadyH.cons (o := _) rfl (fun K hK => ?_) AllReadyH.nil
  go_simp
  go_at_call 65
  refine (ints1_any g s _ HSw.out.2 (Nat.le_trans hl (by decide))).mono ?_
  rintro e w0 ⟨A, c, he, hst0, hss0⟩
  rw [HT0.out] at he hst0 hss0
  obtain rfl : e = .returned (.slice A 1 c) := he
  simp only at hss0
  rw [HZd.out] at hst0
  have h0 := hss0.1.size
  rw [HZd.out] at h0
  have HS0 : Hid (SsTo w g s0 w0) := Lib.hid (HSw.out.trans hss0)
  have HV0 := Lib.hid (HVd.out.grown hss0.1 (by omega))
  have HR0 := Lib.hid hst0
  obtain ⟨b, off, hA, hbl, hcc⟩ := ints_cells hst0.out (by simp)
  subst hA
  have HC0 : Hid (w0.cell? ⟨b, off, none⟩ = some (.int .i64 n0)) := Lib.hid (hcc 0 _ rfl)
  have HCW : Hid (∀ W, Keeps (w.heap.size + 1) w0 W → W.cell? ⟨b, off, none⟩ = some (.int .i64 n0)) := Lib.hid (fun W hW => by
    obtain ⟨b2, o2, hA2, _, hc2⟩ := ints_cells (hst0 W hW) (by simp)
    simp only [Option.some.injEq, Addr.mk.injEq] at hA2
    obtain ⟨rfl, rfl, _⟩ := hA2
    exact hc2 0 _ rfl)
  clear hss0 hst0 hcc HSw HVd HZd
  go_wp2_with fail
  refine hK.out _ _ trivial (fun hHeld => ?_)
  clear hK K
  try simp only [Act.put, List.setIfInBounds_toArray, List.set_cons_zero, List.set_cons_succ]
  refine wpAnyH_strong (S' := fun W => W.cell? ⟨b, off, none⟩ = some (.int .i64 n0)) (fun _ _ => trivial) _ _ _ _ ?_
  have hHeld2 := HC0.out
  have HK0 := Lib.hid (Keeps.refl (w.heap.size + 1) w0)
  refine wpAnyH_take (i := 2) (oi := _) (v := ?_) rfl (by kernel_rfl) (by kernel_rfl) (by kernel_rfl) (fun _ _ _ h => h) (Or.inl ⟨by rfl, ?_⟩) (by assumption) ?_
  rotate_left
  · intro W hSw; (try dsimp only at hSw); go_simp; try with_reducible rfl
  try simp only [Act.put, List.setIfInBounds_toArray]
  refine wpAnyH_take (i := 3) (oi := _) (v := ?_) rfl (by kernel_rfl) (by kernel_rfl) (by kernel_rfl) (fun _ _ _ h => h) (Or.inl ⟨by rfl, ?_⟩) (by assumption) ?_
  rotate_left
  · intro W hSw; (try dsimp only at hSw); go_simp; try with_reducible rfl
  try simp only [Act.put]
  refine wpAnyH_ready (rs := [5]) (by kernel_rfl) (by simp) ?_
  refine AllReadyH.cons (o := _) rfl (fun K hK => ?_) AllReadyH.nil
  go_simp
  go_at_call 66
  refine (text_any g s0 _ (HS0.out.2) (Nat.le_trans HL0.out (by decide))).mono ?_
  rintro e w1 ⟨rfl, hss1⟩
  rw [show tkText s0 = (t1, s1) from HT1.out] at hss1 ⊢
  simp only at hss1 ⊢
  have hz1 := hss1.1.size
  have hy0 := HS0.out.1.size
  have HK1 : Hid (Keeps (w.heap.size + 1) w0 w1) := Lib.hid (HK0.out.trans (keeps_grown hss1.1 (by omega)))
  have HS1 : Hid (SsTo w g s1 w1) := Lib.hid (HS0.out.trans hss1)
  have HV1 := Lib.hid (HV0.out.grown hss1.1 (by omega))
  have hC1 := HCW.out w1 HK1.out
  clear hss1
  go_wp2_with fail
  refine hK.out _ _ hC1 (fun hHeld => ?_)
  clear hK K
  try simp only [Act.put, List.setIfInBounds_toArray, List.set_cons_zero, List.set_cons_succ]
  refine wpAnyH_ready (rs := [7]) (by kernel_rfl) (by simp) ?_
  refine AllReadyH.cons (o := _) rfl (fun K hK => ?_) AllReadyH.nil
  go_simp
  go_at_call 67
  refine (partsSg_any g s1 _ (HS1.out.2) HL1.out (fun t ht q W hW => signature_x q ⟨t, false⟩ W hW (Nat.le_trans (Nat.le_trans ht HL1.out) (by decide)))).mono ?_
  rintro e w2 ⟨x2, rfl, hx2, hst2, hss2⟩
  rw [show tkParts tkSg s1 = (t2, s2) from HT2.out] at hss2 hx2
  simp only at hss2 hx2
  have HX2 := Lib.hid hx2
  clear hx2
  have hz2 := hss2.1.size
  have hy1 := HS1.out.1.size
  have HK2 : Hid (Keeps (w.heap.size + 1) w0 w2) := Lib.hid (HK1.out.trans (keeps_grown hss2.1 (by omega)))
  have HS2 : Hid (SsTo w g s2 w2) := Lib.hid (HS1.out.trans hss2)
  have HV2 := Lib.hid (HV1.out.grown hss2.1 (by omega))
  have hC2 := HCW.out w2 HK2.out
  have HR2_2 := Lib.hid (hst2.low (b' := w.heap.size + 1) (by have := HV1.out.lt; omega))
  clear hst2
  clear hss2
  go_wp2_with fail
  refine hK.out _ _ hC2 (fun hHeld => ?_)
  clear hK K
  try simp only [Act.put, List.setIfInBounds_toArray, List.set_cons_zero, List.set_cons_succ]
  refine wpAnyH_take (i := 8) (oi := _) (v := ?_) rfl (by kernel_rfl) (by kernel_rfl) (by kernel_rfl) (fun _ _ _ h => h) (Or.inl ⟨by rfl, ?_⟩) (by assumption) ?_
  rotate_left
  · intro W hSw; (try dsimp only at hSw); go_simp; try with_reducible rfl
  try simp only [Act.put, List.setIfInBounds_toArray]
  refine wpAnyH_ready (rs := [9]) (by kernel_rfl) (by simp) ?_
  refine AllReadyH.cons (o := _) rfl (fun K hK => ?_) AllReadyH.nil
  rw [if_pos (by rfl)]
  refine wp_store_mid 78 _ _ rfl w.heap.size 0 (deC ⟨n0, t1, x2⟩).toArray rfl rfl (HV2.out.there rfl) (infoDen ⟨n0, t1, x2⟩) (deC_one' ⟨n0, t1, x2⟩) ?_
  have hKe : Keeps (w.heap.size + 1) w2 (w2.setCells w.heap.size 0 (deC ⟨n0, t1, x2⟩)) := keeps_grown (grown_vs (b := w.heap.size) _) (by omega)
  have hCe := HCW.out _ (HK2.out.trans hKe)
  have HKe := Lib.hid hKe
  have HSe := Lib.hid (HS2.out.own (grown_vs (b := w.heap.size) (deC ⟨n0, t1, x2⟩)) (Nat.le_refl _) (by omega))
  have HVe := Lib.hid (HV2.out.sets (deC ⟨n0, t1, x2⟩) rfl)
  clear hKe
  refine hK.out _ _ hCe (fun hHeld => ?_)
  clear hK K
  try simp only [Act.put]
  refine wpAnyH_done (by kernel_rfl) ?_ _
  refine NoPanic.normal ?_
  go_wp2_with fail
  refine bodyPost_ret (v := .agg (deC ⟨n0, t1, x2⟩).toArray) ?_ rfl (ret_x (x := ⟨n0, t1, x2⟩) HSpec.out rfl ?_ ?_ HSe.out)
  · exact results_mid Tryz.results81 _ _ w.heap.size (deC ⟨n0, t1, x2⟩) _ rfl HVe.out.range Tryz.underlying78 rfl (infoDen ⟨n0, t1, x2⟩)
  · show De.mk n0 t1 x2.er = _
    have := HX2.out
    rw [List.map_id] at this
    rw [Sl.er, this]; rfl
  · exact fun W hW => ⟨HN64.out n0 (by simp), (HR2_2.out.on HKe.out).low (by omega) W hW⟩
end Go.Proofs.YtoehakekjlebdaaGreatDoor
/- message.part and message.parts at entries. -/
namespace Go.Proofs.YtoehakekjlebdaaGreatDoor
open Go.RowKit

set_option maxRecDepth 100000 in
set_option maxHeartbeats 1000000 in
theorem partDe_any (g : Nat) (s : Sc) (t : List UInt8) (w : World) (hs : Ss w g s)
    (HF : ∀ q W, Ss W q ⟨t, false⟩ → Calls Tryz.prog 81 #[.pointer (some ⟨q, 0, none⟩)] W (RetX deC De.er De.ok q (tkDe ⟨t, false⟩) W)) :
    Calls Tryz.prog 110 #[.pointer (some ⟨g, 0, none⟩), .string ⟨t.toArray⟩, .func (.func 81) #[] #[]] w (RetX deC De.er De.ok g (tkPart tkDe t s) w) := by
  obtain ⟨r, b⟩ := s
  have hgl := hs.lt
  obtain ⟨y, hy⟩ : ∃ y, y = tkDe ⟨t, false⟩ := ⟨_, rfl⟩
  obtain ⟨y1, r', b'⟩ := y
  have HR : Hid (tkPart tkDe t ⟨r, b⟩ = (y1, ⟨r, b || b' || !r'.isEmpty⟩)) := Lib.hid (by unfold tkPart; rw [← hy])
  have HFX := Lib.hid HF
  have HY := Lib.hid hy
  have HV0 := Lib.hid (Vr.new w [.int .i64 0, .string ⟨#[]⟩, .slice none 0 0] 78)
  have HV1 := Lib.hid (HV0.out.below (below_new (w.alloc (.cells #[.int .i64 0, .string ⟨#[]⟩, .slice none 0 0] 78)) (.cells #[.string ⟨t.toArray⟩, .bool false] 58)))
  have HS1 := Lib.hid (((SsTo.refl hs).alloc (.cells #[.int .i64 0, .string ⟨#[]⟩, .slice none 0 0] 78)).alloc (.cells #[.string ⟨t.toArray⟩, .bool false] 58))
  have HQ1 := Lib.hid (Ss.new' (w.alloc (.cells #[.int .i64 0, .string ⟨#[]⟩, .slice none 0 0] 78)) t false 58 (g := w.heap.size + 1) (by simp))
  have HZ1 : Hid (((w.alloc (.cells #[.int .i64 0, .string ⟨#[]⟩, .slice none 0 0] 78)).alloc (.cells #[.string ⟨t.toArray⟩, .bool false] 58)).heap.size = w.heap.size + 2) := Lib.hid (by simp)
  clear hs hy HF HV0
  go_enter Tryz.func110, Tryz.ntmps110
  go_wp2_with fail
  refine (HFX.out (w.heap.size + 1) _ HQ1.out).mono ?_
  rintro e w2 ⟨x, he, hx, hst, hss⟩
  rw [← HY.out] at hss hx
  obtain rfl : e = .returned (.agg #[.int .i64 x.view, .string ⟨x.value.toArray⟩, .slice x.cert.a x.cert.l.length x.cert.c]) := he
  rw [HZ1.out] at hst
  have h2 := hss.1.size
  rw [HZ1.out] at h2
  have HV2 := Lib.hid ((HV1.out.grown hss.1 (by omega)).below (below_new w2 (.cells #[.int .i64 x.view, .string ⟨x.value.toArray⟩, .slice x.cert.a x.cert.l.length x.cert.c] 78)))
  have HS2 := Lib.hid ((HS1.out.own hss.1 (by omega) (by omega)).alloc (.cells #[.int .i64 x.view, .string ⟨x.value.toArray⟩, .slice x.cert.a x.cert.l.length x.cert.c] 78))
  have HQ2 := Lib.hid (hss.2.alloc (.cells #[.int .i64 x.view, .string ⟨x.value.toArray⟩, .slice x.cert.a x.cert.l.length x.cert.c] 78))
  have HX2 := Lib.hid (Vr.new w2 (deC x) 78)
  have HT2 := Lib.hid (hst.on (keeps_below _ (below_new w2 (.cells #[.int .i64 x.view, .string ⟨x.value.toArray⟩, .slice x.cert.a x.cert.l.length x.cert.c] 78))))
  have HX := Lib.hid hx
  clear hx hst hss HV1 HS1 HQ1 HZ1
  go_upto_region 3 with fail
  generalize hw3 : w2.alloc (.cells #[.int .i64 x.view, .string ⟨x.value.toArray⟩, .slice x.cert.a x.cert.l.length x.cert.c] 78) = w3 at HV2 HS2 HQ2 HT2
  have HX3 : Hid (Vr w3 w2.heap.size (deC x)) := Lib.hid (hw3 ▸ HX2.out)
  try rw [hw3]
  clear hw3 HX2
  have c1 := HS2.out.2.c1
  have f1 := HS2.out.2.f1
  have dl := HS2.out.2.lt
  have q0 := HQ2.out.c0
  have q1 := HQ2.out.c1
  have ql := HQ2.out.lt
  simp only at c1 q0 q1
  have HVz : Hid (∀ v : Bool, Vr (w3.setCell ⟨g, 1, none⟩ (.bool v)) w.heap.size [.int .i64 0, .string ⟨#[]⟩, .slice none 0 0]) := Lib.hid (fun v => HV2.out.grown (grown_set w3 ⟨g, 1, none⟩ (.bool v)) (by show w.heap.size ≠ g; omega))
  have HXz : Hid (∀ v : Bool, Vr (w3.setCell ⟨g, 1, none⟩ (.bool v)) w2.heap.size (deC x)) := Lib.hid (fun v => HX3.out.grown (grown_set w3 ⟨g, 1, none⟩ (.bool v)) (by show w2.heap.size ≠ g; omega))
  have HFin : Hid (∀ v : Bool, v = (b || b' || !r'.isEmpty) → RetX deC De.er De.ok g (tkPart tkDe t ⟨r, b⟩) w (.returned (.agg (deC x).toArray)) ((w3.setCell ⟨g, 1, none⟩ (.bool v)).setCells w.heap.size 0 (deC x))) := Lib.hid (fun v hv =>
    ret_x HR.out rfl HX.out (((HT2.out.on (keeps_grown (grown_set w3 ⟨g, 1, none⟩ (.bool v)) (by show g < w.heap.size + 2; omega))).on (keeps_grown (grown_vs (b := w.heap.size) (deC x)) (by omega))).low (by omega))
      (((HS2.out.set1 v).own (grown_vs (b := w.heap.size) (deC x)) (Nat.le_refl _) (by omega)).eq (by rw [hv])))
  cases b
  · cases b'
    · cases r'
      · go_wp2_with (first
          | (refine wpList_load_mid rfl 78 _ rfl w2.heap.size 0 rfl (deC x) _ (HXz.out false).range Tryz.underlying78 rfl (infoDen x) ?_)
          | (refine wpList_store_mid rfl 78 _ _ rfl w.heap.size 0 (deC x).toArray rfl rfl ((HVz.out false).there rfl) (infoDen x) (deC_one' x) ?_))
        refine bodyPost_ret (v := .agg (deC x).toArray) ?_ rfl (HFin.out false rfl)
        exact results_mid Tryz.results110 _ _ w.heap.size (deC x) _ rfl ((HVz.out false).sets (deC x) rfl).range Tryz.underlying78 rfl (infoDen x)
      · go_wp2_with (first
          | (refine wpList_load_mid rfl 78 _ rfl w2.heap.size 0 rfl (deC x) _ (HXz.out true).range Tryz.underlying78 rfl (infoDen x) ?_)
          | (refine wpList_store_mid rfl 78 _ _ rfl w.heap.size 0 (deC x).toArray rfl rfl ((HVz.out true).there rfl) (infoDen x) (deC_one' x) ?_))
        refine bodyPost_ret (v := .agg (deC x).toArray) ?_ rfl (HFin.out true rfl)
        exact results_mid Tryz.results110 _ _ w.heap.size (deC x) _ rfl ((HVz.out true).sets (deC x) rfl).range Tryz.underlying78 rfl (infoDen x)
    · go_wp2_with (first
        | (refine wpList_load_mid rfl 78 _ rfl w2.heap.size 0 rfl (deC x) _ (HXz.out true).range Tryz.underlying78 rfl (infoDen x) ?_)
        | (refine wpList_store_mid rfl 78 _ _ rfl w.heap.size 0 (deC x).toArray rfl rfl ((HVz.out true).there rfl) (infoDen x) (deC_one' x) ?_))
      refine bodyPost_ret (v := .agg (deC x).toArray) ?_ rfl (HFin.out true rfl)
      exact results_mid Tryz.results110 _ _ w.heap.size (deC x) _ rfl ((HVz.out true).sets (deC x) rfl).range Tryz.underlying78 rfl (infoDen x)
  · go_wp2_with (first
      | (refine wpList_load_mid rfl 78 _ rfl w2.heap.size 0 rfl (deC x) _ (HXz.out true).range Tryz.underlying78 rfl (infoDen x) ?_)
      | (refine wpList_store_mid rfl 78 _ _ rfl w.heap.size 0 (deC x).toArray rfl rfl ((HVz.out true).there rfl) (infoDen x) (deC_one' x) ?_))
    refine bodyPost_ret (v := .agg (deC x).toArray) ?_ rfl (HFin.out true (by simp))
    exact results_mid Tryz.results110 _ _ w.heap.size (deC x) _ rfl ((HVz.out true).sets (deC x) rfl).range Tryz.underlying78 rfl (infoDen x)
theorem infoDer : (Tryz.prog.info? 78).map (fun i => (i.zero, i.size, i.bytes)) = some (some (.agg #[.int .i64 0, .string ⟨#[]⟩, .slice none 0 0]), 3, 48) := by kernel_rfl
set_option maxRecDepth 100000 in
set_option maxHeartbeats 1000000 in
theorem partsDe_any (g : Nat) (s : Sc) (w : World) (hs : Ss w g s) (hl : s.rest.length ≤ 268435456)
    (HF : ∀ t : List UInt8, t.length ≤ s.rest.length → ∀ q W, Ss W q ⟨t, false⟩ → Calls Tryz.prog 81 #[.pointer (some ⟨q, 0, none⟩)] W (RetX deC De.er De.ok q (tkDe ⟨t, false⟩) W)) :
    Calls Tryz.prog 80 #[.pointer (some ⟨g, 0, none⟩), .func (.func 81) #[] #[]] w (RetXs 3 deC De.er De.ok g (tkParts tkDe s) w) := by
  have hgl := hs.lt
  have hz := tkTexts_sz s
  have HTx := Lib.hid (texts_any g s w hs (Nat.le_trans hl (by decide)))
  obtain ⟨p, hp⟩ : ∃ p, p = tkTexts s := ⟨_, rfl⟩
  have HR : Hid (tkParts tkDe s = tkAll tkDe p.1 p.2) := Lib.hid (by rw [hp]; rfl)
  rw [← hp] at HTx hz
  obtain ⟨l, s1⟩ := p
  simp only at hz HTx HR
  have hln : l.length ≤ 268435456 := by have := sum_ge szS l 1 szS_ge; omega
  have HP : Hid (∀ t ∈ l, ∀ s' W, Ss W g s' → Calls Tryz.prog 110 #[.pointer (some ⟨g, 0, none⟩), .string ⟨t.toArray⟩, .func (.func 81) #[] #[]] W (RetX deC De.er De.ok g (tkPart tkDe t s') W)) :=
    Lib.hid (fun t ht s' W hW => partDe_any g s' t W hW (HF t (by have := sum_get szS l t ht; unfold szS at this hz; omega)))
  obtain ⟨i0, hi, hz0, hz1, hz2⟩ := info_parts infoDer
  have HI := Lib.hid hi
  have HZ0 := Lib.hid hz0
  have HZ1 := Lib.hid hz1
  have HZ2 := Lib.hid hz2
  clear hi hz0 hz1 hz2 hs HF hp hz
  go_enter Tryz.func80, Tryz.ntmps80
  go_wp2_with fail
  refine HTx.out.mono ?_
  rintro e w1 ⟨A, c, rfl, hr, h⟩
  have HSt := Lib.hid (PtSt.start (T := 78) (k := 3) (C := deC) (er := De.er) (ok := De.ok) (tk := tkDe) hr h)
  have hB : w.heap.size ≤ w1.heap.size := h.1.size
  clear hr h
  simp only
  go_wp2_with fail
  go_loopw [5, 11] (fun o i wr => ∃ (j : Nat) (xs : List De) (sj : Sc) (F : Nat → Prop), i = .int .i64 j ∧ j ≤ l.length ∧ PtSt 78 3 deC De.er De.ok tkDe w w1.heap.size g A l s1 j o xs sj F wr) (fun _ i _ => l.length - (intOf i).toNat)
  case atStart => exact ⟨0, [], s1, _, rfl, by omega, HSt.out⟩
  case round =>
    obtain ⟨j, xs, sj, F, rfl, hj, hst⟩ := hrel
    have HJ := Lib.hid hst
    clear hst
    by_cases hlt : j < l.length
    · have i0' : (0 : Int) ≤ (j : Int) := by omega
      have i1 : (j : Int) < (l.length : Int) := by omega
      obtain ⟨b, off, hA, hbl, hcc⟩ := HJ.out.foot.out.1.cells (by rw [strC_len]; omega)
      subst hA
      obtain ⟨t, ht⟩ : ∃ t, t = l[j] := ⟨_, rfl⟩
      have a0 : wr.cell? ⟨b, off + j, none⟩ = some (.string ⟨t.toArray⟩) := hcc j _ (by unfold strC; rw [List.getElem?_map, List.getElem?_eq_getElem hlt, ht]; rfl)
      have HTt := Lib.hid ht
      have HM := Lib.hid (ht ▸ List.getElem_mem hlt : t ∈ l)
      clear ht hcc
      go_wp2_with fail
      refine (HP.out t HM.out sj wr HJ.out.src.2).mono ?_
      rintro e w2 ⟨x, he, hx, hstx, hs2⟩
      obtain rfl : e = .returned (.agg #[.int .i64 x.view, .string ⟨x.value.toArray⟩, .slice x.cert.a x.cert.l.length x.cert.c]) := he
      have HO2 := Lib.hid (HJ.out.row (by omega) hs2)
      have hz2 : wr.heap.size ≤ w2.heap.size := hs2.1.size
      have hz3 : w1.heap.size ≤ wr.heap.size := HJ.out.size
      have HX := Lib.hid hx
      have HTX := Lib.hid hstx
      have HS2 := Lib.hid hs2
      clear hx hstx hs2 a0
      go_wp2_with (at_builtin; refine wpList_append_own_at _ rfl _ _ 30 rfl w1.heap.size 78 i0 _ 3 48 Tryz.underlying30 HI.out HZ0.out HZ1.out HZ2.out rfl (by decide) _ _ _ rfl (HO2.out.alloc _) ⟨w2.heap.size, 0, none⟩ 1 1 [.int .i64 x.view, .string ⟨x.value.toArray⟩, .slice x.cert.a x.cert.l.length x.cert.c] rfl rfl (cell_new _ _ _ _ rfl) (by simp [Value.oneCell']) (by simp [maxLen]; omega) (by omega) (by simp; omega) ?_)
      intro v' w4 hown' hgrow _ hat
      have HN : Hid (PtSt 78 3 deC De.er De.ok tkDe w w1.heap.size g (some ⟨b, off, none⟩) l s1 (j + 1) v' (xs ++ [x]) (tkPart tkDe l[j] sj).2 (fun i => F i ∨ (wr.heap.size ≤ i ∧ i < w2.heap.size)) w4) := Lib.hid
        (HJ.out.step hgl hB hlt (by rw [HX.out, HTt.out]) HTX.out (by rw [← HTt.out]; exact HS2.out) (below_new w2 (.cells #[.int .i64 x.view, .string ⟨x.value.toArray⟩, .slice x.cert.a x.cert.l.length x.cert.c] 78)) (by simp) hown' hgrow hat)
      clear hown' hgrow hat
      go_wp2_with fail
      go_roundw
      case rel => exact ⟨j + 1, xs ++ [x], _, _, by go_num, by omega, HN.out⟩
      case measure => simp [intOf]; omega
    · obtain rfl : j = l.length := by omega
      obtain ⟨a, c', rfl, hret⟩ := HJ.out.done hB
      have HRet := Lib.hid hret
      clear hret
      go_wp2_with fail
      go_ret
      rw [HR.out]
      exact HRet.out
end Go.Proofs.YtoehakekjlebdaaGreatDoor
/- message.readHandover. -/
namespace Go.Proofs.YtoehakekjlebdaaGreatDoor
open Go.RowKit

theorem infoHon (x : Ho) : (Tryz.prog.info? 127).map (·.size) = some (hoC x).length := by
  have : (Tryz.prog.info? 127).map (·.size) = some 4 := by kernel_rfl
  exact this
theorem hoC_one' (x : Ho) : (hoC x).toArray.all (·.oneCell') = true := by simp [hoC, Sl.v, Value.oneCell']
set_option maxRecDepth 100000 in
set_option maxHeartbeats 1000000 in
theorem readHandover_any (g : Nat) (s : Sc) (w : World) (hs : Ss w g s) (hl : s.rest.length ≤ 268435456) :
    Calls Tryz.prog 112 #[.pointer (some ⟨g, 0, none⟩)] w (RetX hoC Ho.er Ho.ok g (tkHo s) w) := by
  have hgl := hs.lt
  have HTn := tkInts_ok 1 s
  obtain ⟨n0, hn⟩ := one_of _ HTn.1
  obtain ⟨s0, hs0⟩ : ∃ s0, s0 = (tkInts 1 s).2 := ⟨_, rfl⟩
  have HT0 : Hid (tkInts 1 s = ([n0], s0)) := Lib.hid (by rw [hs0, ← hn])
  have HN64 : Hid (∀ x ∈ [n0], I64 x) := Lib.hid (by rw [← hn]; exact HTn.2)
  have HL0 : Hid (s0.rest.length ≤ 268435456) := Lib.hid (by rw [hs0]; exact Nat.le_trans (tkInts_rest 1 s) hl)
  clear HTn hn hs0
  obtain ⟨t1, s1, ht1⟩ : ∃ t s', tkDe s0 = (t, s') := ⟨_, _, rfl⟩
  have HL1 : Hid (s1.rest.length ≤ 268435456) := Lib.hid (by have h9 := ag_de.len s0; rw [ht1] at h9; exact Nat.le_trans h9 HL0.out)
  have HT1 := Lib.hid ht1
  clear ht1
  have HSpec : Hid (tkHo s = (⟨n0, t1⟩, s1)) := Lib.hid (by
    unfold tkHo tkThen tkRet
    simp only [HT0.out, HT1.out]
    rfl)
  have HVw := Lib.hid (Vr.new w [.int .i64 0, .int .i64 0, .string ⟨#[]⟩, .slice none 0 0] 127)
  have HSw := Lib.hid ((SsTo.refl hs).below (((below_new w (.cells #[.int .i64 0, .int .i64 0, .string ⟨#[]⟩, .slice none 0 0] 127))).drew))
  have HVd := Lib.hid (HVw.out.below (Below.refl _ _).drew)
  have hzd : (w.alloc (.cells #[.int .i64 0, .int .i64 0, .string ⟨#[]⟩, .slice none 0 0] 127)).drew.heap.size = w.heap.size + 1 := by simp
  have HZd := Lib.hid hzd
  clear hs HVw hzd
  go_enter Tryz.func112, Tryz.ntmps112
  go_wp2_with fail
  refine wp_region_noPanic ?_
  refine wp_region_held_drew (S := fun W => True) (by kernel_rfl) trivial (fun hHeld => ?_)
  refine wpAnyH_take (i := 0) (oi := _) (v := ?_) rfl (by kernel_rfl) (by kernel_rfl) (by kernel_rfl) (fun _ _ _ h => h) (Or.inl ⟨by rfl, ?_⟩) (by assumption) ?_
  rotate_left
  · intro W hSw; (try dsimp only at hSw); go_simp; try with_reducible rfl
  try simp only [Act.put, List.setIfInBounds_toArray]
  refine wpAnyH_take (i := 4) (oi := _) (v := ?_) rfl (by kernel_rfl) (by kernel_rfl) (by kernel_rfl) (fun _ _ _ h => h) (Or.inl ⟨by rfl, ?_⟩) (by assumption) ?_
  rotate_left
  · intro W hSw; (try dsimp only at hSw); go_simp; try with_reducible rfl
  try simp only [Act.put]
  refine wpAnyH_ready (rs := [1]) (by kernel_rfl) (by simp) ?_
  refine AllReadyH.cons (o := _) rfl (fun K hK => ?_) AllReadyH.nil
  go_simp
  go_at_call 65
  refine (ints1_any g s _ HSw.out.2 (Nat.le_trans hl (by decide))).mono ?_
  rintro e w0 ⟨A, c, he, hst0, hss0⟩
  rw [HT0.out] at he hst0 hss0
  obtain rfl : e = .returned (.slice A 1 c) := he
  simp only at hss0
  rw [HZd.out] at hst0
  have h0 := hss0.1.size
  rw [HZd.out] at h0
  have HS0 : Hid (SsTo w g s0 w0) := Lib.hid (HSw.out.trans hss0)
  have HV0 := Lib.hid (HVd.out.grown hss0.1 (by omega))
  have HR0 := Lib.hid hst0
  obtain ⟨b, off, hA, hbl, hcc⟩ := ints_cells hst0.out (by simp)
  subst hA
  have HC0 : Hid (w0.cell? ⟨b, off, none⟩ = some (.int .i64 n0)) := Lib.hid (hcc 0 _ rfl)
  have HCW : Hid (∀ W, Keeps (w.heap.size + 1) w0 W → W.cell? ⟨b, off, none⟩ = some (.int .i64 n0)) := Lib.hid (fun W hW => by
    obtain ⟨b2, o2, hA2, _, hc2⟩ := ints_cells (hst0 W hW) (by simp)
    simp only [Option.some.injEq, Addr.mk.injEq] at hA2
    obtain ⟨rfl, rfl, _⟩ := hA2
    exact hc2 0 _ rfl)
  clear hss0 hst0 hcc HSw HVd HZd
  go_wp2_with fail
  refine hK.out _ _ trivial (fun hHeld => ?_)
  clear hK K
  try simp only [Act.put, List.setIfInBounds_toArray, List.set_cons_zero, List.set_cons_succ]
  refine wpAnyH_strong (S' := fun W => W.cell? ⟨b, off, none⟩ = some (.int .i64 n0)) (fun _ _ => trivial) _ _ _ _ ?_
  have hHeld2 := HC0.out
  have HK0 := Lib.hid (Keeps.refl (w.heap.size + 1) w0)
  refine wpAnyH_take (i := 2) (oi := _) (v := ?_) rfl (by kernel_rfl) (by kernel_rfl) (by kernel_rfl) (fun _ _ _ h => h) (Or.inl ⟨by rfl, ?_⟩) (by assumption) ?_
  rotate_left
  · intro W hSw; (try dsimp only at hSw); go_simp; try with_reducible rfl
  try simp only [Act.put, List.setIfInBounds_toArray]
  refine wpAnyH_take (i := 3) (oi := _) (v := ?_) rfl (by kernel_rfl) (by kernel_rfl) (by kernel_rfl) (fun _ _ _ h => h) (Or.inl ⟨by rfl, ?_⟩) (by assumption) ?_
  rotate_left
  · intro W hSw; (try dsimp only at hSw); go_simp; try with_reducible rfl
  try simp only [Act.put]
  refine wpAnyH_ready (rs := [5]) (by kernel_rfl) (by simp) ?_
  refine AllReadyH.cons (o := _) rfl (fun K hK => ?_) AllReadyH.nil
  go_simp
  go_at_call 81
  refine (readEntry_any g s0 _ (HS0.out.2) HL0.out).mono ?_
  rintro e w1 ⟨x1, he1, hx1, hst1, hss1⟩
  obtain rfl : e = .returned (.agg #[.int .i64 x1.view, .string ⟨x1.value.toArray⟩, .slice x1.cert.a x1.cert.l.length x1.cert.c]) := he1
  rw [show tkDe s0 = (t1, s1) from HT1.out] at hss1 hx1
  simp only at hss1 hx1
  have HX1 := Lib.hid hx1
  clear hx1
  have hz1 := hss1.1.size
  have hy0 := HS0.out.1.size
  have HK1 : Hid (Keeps (w.heap.size + 1) w0 w1) := Lib.hid (HK0.out.trans (keeps_grown hss1.1 (by omega)))
  have HS1 : Hid (SsTo w g s1 w1) := Lib.hid (HS0.out.trans hss1)
  have HV1 := Lib.hid (HV0.out.grown hss1.1 (by omega))
  have hC1 := HCW.out w1 HK1.out
  have HR1_1 := Lib.hid (hst1.low (b' := w.heap.size + 1) (by have := HV0.out.lt; omega))
  clear hst1
  clear hss1
  go_wp2_with fail
  refine hK.out _ _ hC1 (fun hHeld => ?_)
  clear hK K
  try simp only [Act.put, List.setIfInBounds_toArray, List.set_cons_zero, List.set_cons_succ]
  refine wpAnyH_take (i := 6) (oi := _) (v := ?_) rfl (by kernel_rfl) (by kernel_rfl) (by kernel_rfl) (fun _ _ _ h => h) (Or.inl ⟨by rfl, ?_⟩) (by assumption) ?_
  rotate_left
  · intro W hSw; (try dsimp only at hSw); go_simp; try with_reducible rfl
  try simp only [Act.put, List.setIfInBounds_toArray]
  refine wpAnyH_ready (rs := [7]) (by kernel_rfl) (by simp) ?_
  refine AllReadyH.cons (o := _) rfl (fun K hK => ?_) AllReadyH.nil
  rw [if_pos (by rfl)]
  refine wp_store_mid 127 _ _ rfl w.heap.size 0 (hoC ⟨n0, x1⟩).toArray rfl rfl (HV1.out.there rfl) (infoHon ⟨n0, x1⟩) (hoC_one' ⟨n0, x1⟩) ?_
  have hKe : Keeps (w.heap.size + 1) w1 (w1.setCells w.heap.size 0 (hoC ⟨n0, x1⟩)) := keeps_grown (grown_vs (b := w.heap.size) _) (by omega)
  have hCe := HCW.out _ (HK1.out.trans hKe)
  have HKe := Lib.hid hKe
  have HSe := Lib.hid (HS1.out.own (grown_vs (b := w.heap.size) (hoC ⟨n0, x1⟩)) (Nat.le_refl _) (by omega))
  have HVe := Lib.hid (HV1.out.sets (hoC ⟨n0, x1⟩) rfl)
  clear hKe
  refine hK.out _ _ hCe (fun hHeld => ?_)
  clear hK K
  try simp only [Act.put]
  refine wpAnyH_done (by kernel_rfl) ?_ _
  refine NoPanic.normal ?_
  go_wp2_with fail
  refine bodyPost_ret (v := .agg (hoC ⟨n0, x1⟩).toArray) ?_ rfl (ret_x (x := ⟨n0, x1⟩) HSpec.out rfl ?_ ?_ HSe.out)
  · exact results_mid Tryz.results112 _ _ w.heap.size (hoC ⟨n0, x1⟩) _ rfl HVe.out.range Tryz.underlying127 rfl (infoHon ⟨n0, x1⟩)
  · show Ho.mk n0 x1.er = _
    rw [HX1.out]
  · exact fun W hW => ⟨HN64.out n0 (by simp), (HR1_1.out.on HKe.out).low (by omega) W hW⟩
end Go.Proofs.YtoehakekjlebdaaGreatDoor
/- message.part and message.parts at handovers. -/
namespace Go.Proofs.YtoehakekjlebdaaGreatDoor
open Go.RowKit

set_option maxRecDepth 100000 in
set_option maxHeartbeats 1000000 in
theorem partHo_any (g : Nat) (s : Sc) (t : List UInt8) (w : World) (hs : Ss w g s)
    (HF : ∀ q W, Ss W q ⟨t, false⟩ → Calls Tryz.prog 112 #[.pointer (some ⟨q, 0, none⟩)] W (RetX hoC Ho.er Ho.ok q (tkHo ⟨t, false⟩) W)) :
    Calls Tryz.prog 130 #[.pointer (some ⟨g, 0, none⟩), .string ⟨t.toArray⟩, .func (.func 112) #[] #[]] w (RetX hoC Ho.er Ho.ok g (tkPart tkHo t s) w) := by
  obtain ⟨r, b⟩ := s
  have hgl := hs.lt
  obtain ⟨y, hy⟩ : ∃ y, y = tkHo ⟨t, false⟩ := ⟨_, rfl⟩
  obtain ⟨y1, r', b'⟩ := y
  have HR : Hid (tkPart tkHo t ⟨r, b⟩ = (y1, ⟨r, b || b' || !r'.isEmpty⟩)) := Lib.hid (by unfold tkPart; rw [← hy])
  have HFX := Lib.hid HF
  have HY := Lib.hid hy
  have HV0 := Lib.hid (Vr.new w [.int .i64 0, .int .i64 0, .string ⟨#[]⟩, .slice none 0 0] 127)
  have HV1 := Lib.hid (HV0.out.below (below_new (w.alloc (.cells #[.int .i64 0, .int .i64 0, .string ⟨#[]⟩, .slice none 0 0] 127)) (.cells #[.string ⟨t.toArray⟩, .bool false] 58)))
  have HS1 := Lib.hid (((SsTo.refl hs).alloc (.cells #[.int .i64 0, .int .i64 0, .string ⟨#[]⟩, .slice none 0 0] 127)).alloc (.cells #[.string ⟨t.toArray⟩, .bool false] 58))
  have HQ1 := Lib.hid (Ss.new' (w.alloc (.cells #[.int .i64 0, .int .i64 0, .string ⟨#[]⟩, .slice none 0 0] 127)) t false 58 (g := w.heap.size + 1) (by simp))
  have HZ1 : Hid (((w.alloc (.cells #[.int .i64 0, .int .i64 0, .string ⟨#[]⟩, .slice none 0 0] 127)).alloc (.cells #[.string ⟨t.toArray⟩, .bool false] 58)).heap.size = w.heap.size + 2) := Lib.hid (by simp)
  clear hs hy HF HV0
  go_enter Tryz.func130, Tryz.ntmps130
  go_wp2_with fail
  refine (HFX.out (w.heap.size + 1) _ HQ1.out).mono ?_
  rintro e w2 ⟨x, he, hx, hst, hss⟩
  rw [← HY.out] at hss hx
  obtain rfl : e = .returned (.agg #[.int .i64 x.slot, .int .i64 x.entry.view, .string ⟨x.entry.value.toArray⟩, .slice x.entry.cert.a x.entry.cert.l.length x.entry.cert.c]) := he
  rw [HZ1.out] at hst
  have h2 := hss.1.size
  rw [HZ1.out] at h2
  have HV2 := Lib.hid ((HV1.out.grown hss.1 (by omega)).below (below_new w2 (.cells #[.int .i64 x.slot, .int .i64 x.entry.view, .string ⟨x.entry.value.toArray⟩, .slice x.entry.cert.a x.entry.cert.l.length x.entry.cert.c] 127)))
  have HS2 := Lib.hid ((HS1.out.own hss.1 (by omega) (by omega)).alloc (.cells #[.int .i64 x.slot, .int .i64 x.entry.view, .string ⟨x.entry.value.toArray⟩, .slice x.entry.cert.a x.entry.cert.l.length x.entry.cert.c] 127))
  have HQ2 := Lib.hid (hss.2.alloc (.cells #[.int .i64 x.slot, .int .i64 x.entry.view, .string ⟨x.entry.value.toArray⟩, .slice x.entry.cert.a x.entry.cert.l.length x.entry.cert.c] 127))
  have HX2 := Lib.hid (Vr.new w2 (hoC x) 127)
  have HT2 := Lib.hid (hst.on (keeps_below _ (below_new w2 (.cells #[.int .i64 x.slot, .int .i64 x.entry.view, .string ⟨x.entry.value.toArray⟩, .slice x.entry.cert.a x.entry.cert.l.length x.entry.cert.c] 127))))
  have HX := Lib.hid hx
  clear hx hst hss HV1 HS1 HQ1 HZ1
  go_upto_region 3 with fail
  generalize hw3 : w2.alloc (.cells #[.int .i64 x.slot, .int .i64 x.entry.view, .string ⟨x.entry.value.toArray⟩, .slice x.entry.cert.a x.entry.cert.l.length x.entry.cert.c] 127) = w3 at HV2 HS2 HQ2 HT2
  have HX3 : Hid (Vr w3 w2.heap.size (hoC x)) := Lib.hid (hw3 ▸ HX2.out)
  try rw [hw3]
  clear hw3 HX2
  have c1 := HS2.out.2.c1
  have f1 := HS2.out.2.f1
  have dl := HS2.out.2.lt
  have q0 := HQ2.out.c0
  have q1 := HQ2.out.c1
  have ql := HQ2.out.lt
  simp only at c1 q0 q1
  have HVz : Hid (∀ v : Bool, Vr (w3.setCell ⟨g, 1, none⟩ (.bool v)) w.heap.size [.int .i64 0, .int .i64 0, .string ⟨#[]⟩, .slice none 0 0]) := Lib.hid (fun v => HV2.out.grown (grown_set w3 ⟨g, 1, none⟩ (.bool v)) (by show w.heap.size ≠ g; omega))
  have HXz : Hid (∀ v : Bool, Vr (w3.setCell ⟨g, 1, none⟩ (.bool v)) w2.heap.size (hoC x)) := Lib.hid (fun v => HX3.out.grown (grown_set w3 ⟨g, 1, none⟩ (.bool v)) (by show w2.heap.size ≠ g; omega))
  have HFin : Hid (∀ v : Bool, v = (b || b' || !r'.isEmpty) → RetX hoC Ho.er Ho.ok g (tkPart tkHo t ⟨r, b⟩) w (.returned (.agg (hoC x).toArray)) ((w3.setCell ⟨g, 1, none⟩ (.bool v)).setCells w.heap.size 0 (hoC x))) := Lib.hid (fun v hv =>
    ret_x HR.out rfl HX.out (((HT2.out.on (keeps_grown (grown_set w3 ⟨g, 1, none⟩ (.bool v)) (by show g < w.heap.size + 2; omega))).on (keeps_grown (grown_vs (b := w.heap.size) (hoC x)) (by omega))).low (by omega))
      (((HS2.out.set1 v).own (grown_vs (b := w.heap.size) (hoC x)) (Nat.le_refl _) (by omega)).eq (by rw [hv])))
  cases b
  · cases b'
    · cases r'
      · go_wp2_with (first
          | (refine wpList_load_mid rfl 127 _ rfl w2.heap.size 0 rfl (hoC x) _ (HXz.out false).range Tryz.underlying127 rfl (infoHon x) ?_)
          | (refine wpList_store_mid rfl 127 _ _ rfl w.heap.size 0 (hoC x).toArray rfl rfl ((HVz.out false).there rfl) (infoHon x) (hoC_one' x) ?_))
        refine bodyPost_ret (v := .agg (hoC x).toArray) ?_ rfl (HFin.out false rfl)
        exact results_mid Tryz.results130 _ _ w.heap.size (hoC x) _ rfl ((HVz.out false).sets (hoC x) rfl).range Tryz.underlying127 rfl (infoHon x)
      · go_wp2_with (first
          | (refine wpList_load_mid rfl 127 _ rfl w2.heap.size 0 rfl (hoC x) _ (HXz.out true).range Tryz.underlying127 rfl (infoHon x) ?_)
          | (refine wpList_store_mid rfl 127 _ _ rfl w.heap.size 0 (hoC x).toArray rfl rfl ((HVz.out true).there rfl) (infoHon x) (hoC_one' x) ?_))
        refine bodyPost_ret (v := .agg (hoC x).toArray) ?_ rfl (HFin.out true rfl)
        exact results_mid Tryz.results130 _ _ w.heap.size (hoC x) _ rfl ((HVz.out true).sets (hoC x) rfl).range Tryz.underlying127 rfl (infoHon x)
    · go_wp2_with (first
        | (refine wpList_load_mid rfl 127 _ rfl w2.heap.size 0 rfl (hoC x) _ (HXz.out true).range Tryz.underlying127 rfl (infoHon x) ?_)
        | (refine wpList_store_mid rfl 127 _ _ rfl w.heap.size 0 (hoC x).toArray rfl rfl ((HVz.out true).there rfl) (infoHon x) (hoC_one' x) ?_))
      refine bodyPost_ret (v := .agg (hoC x).toArray) ?_ rfl (HFin.out true rfl)
      exact results_mid Tryz.results130 _ _ w.heap.size (hoC x) _ rfl ((HVz.out true).sets (hoC x) rfl).range Tryz.underlying127 rfl (infoHon x)
  · go_wp2_with (first
      | (refine wpList_load_mid rfl 127 _ rfl w2.heap.size 0 rfl (hoC x) _ (HXz.out true).range Tryz.underlying127 rfl (infoHon x) ?_)
      | (refine wpList_store_mid rfl 127 _ _ rfl w.heap.size 0 (hoC x).toArray rfl rfl ((HVz.out true).there rfl) (infoHon x) (hoC_one' x) ?_))
    refine bodyPost_ret (v := .agg (hoC x).toArray) ?_ rfl (HFin.out true (by simp))
    exact results_mid Tryz.results130 _ _ w.heap.size (hoC x) _ rfl ((HVz.out true).sets (hoC x) rfl).range Tryz.underlying127 rfl (infoHon x)
theorem infoHor : (Tryz.prog.info? 127).map (fun i => (i.zero, i.size, i.bytes)) = some (some (.agg #[.int .i64 0, .int .i64 0, .string ⟨#[]⟩, .slice none 0 0]), 4, 56) := by kernel_rfl
set_option maxRecDepth 100000 in
set_option maxHeartbeats 1000000 in
theorem partsHo_any (g : Nat) (s : Sc) (w : World) (hs : Ss w g s) (hl : s.rest.length ≤ 268435456)
    (HF : ∀ t : List UInt8, t.length ≤ s.rest.length → ∀ q W, Ss W q ⟨t, false⟩ → Calls Tryz.prog 112 #[.pointer (some ⟨q, 0, none⟩)] W (RetX hoC Ho.er Ho.ok q (tkHo ⟨t, false⟩) W)) :
    Calls Tryz.prog 111 #[.pointer (some ⟨g, 0, none⟩), .func (.func 112) #[] #[]] w (RetXs 4 hoC Ho.er Ho.ok g (tkParts tkHo s) w) := by
  have hgl := hs.lt
  have hz := tkTexts_sz s
  have HTx := Lib.hid (texts_any g s w hs (Nat.le_trans hl (by decide)))
  obtain ⟨p, hp⟩ : ∃ p, p = tkTexts s := ⟨_, rfl⟩
  have HR : Hid (tkParts tkHo s = tkAll tkHo p.1 p.2) := Lib.hid (by rw [hp]; rfl)
  rw [← hp] at HTx hz
  obtain ⟨l, s1⟩ := p
  simp only at hz HTx HR
  have hln : l.length ≤ 268435456 := by have := sum_ge szS l 1 szS_ge; omega
  have HP : Hid (∀ t ∈ l, ∀ s' W, Ss W g s' → Calls Tryz.prog 130 #[.pointer (some ⟨g, 0, none⟩), .string ⟨t.toArray⟩, .func (.func 112) #[] #[]] W (RetX hoC Ho.er Ho.ok g (tkPart tkHo t s') W)) :=
    Lib.hid (fun t ht s' W hW => partHo_any g s' t W hW (HF t (by have := sum_get szS l t ht; unfold szS at this hz; omega)))
  obtain ⟨i0, hi, hz0, hz1, hz2⟩ := info_parts infoHor
  have HI := Lib.hid hi
  have HZ0 := Lib.hid hz0
  have HZ1 := Lib.hid hz1
  have HZ2 := Lib.hid hz2
  clear hi hz0 hz1 hz2 hs HF hp hz
  go_enter Tryz.func111, Tryz.ntmps111
  go_wp2_with fail
  refine HTx.out.mono ?_
  rintro e w1 ⟨A, c, rfl, hr, h⟩
  have HSt := Lib.hid (PtSt.start (T := 127) (k := 4) (C := hoC) (er := Ho.er) (ok := Ho.ok) (tk := tkHo) hr h)
  have hB : w.heap.size ≤ w1.heap.size := h.1.size
  clear hr h
  simp only
  go_wp2_with fail
  go_loopw [5, 11] (fun o i wr => ∃ (j : Nat) (xs : List Ho) (sj : Sc) (F : Nat → Prop), i = .int .i64 j ∧ j ≤ l.length ∧ PtSt 127 4 hoC Ho.er Ho.ok tkHo w w1.heap.size g A l s1 j o xs sj F wr) (fun _ i _ => l.length - (intOf i).toNat)
  case atStart => exact ⟨0, [], s1, _, rfl, by omega, HSt.out⟩
  case round =>
    obtain ⟨j, xs, sj, F, rfl, hj, hst⟩ := hrel
    have HJ := Lib.hid hst
    clear hst
    by_cases hlt : j < l.length
    · have i0' : (0 : Int) ≤ (j : Int) := by omega
      have i1 : (j : Int) < (l.length : Int) := by omega
      obtain ⟨b, off, hA, hbl, hcc⟩ := HJ.out.foot.out.1.cells (by rw [strC_len]; omega)
      subst hA
      obtain ⟨t, ht⟩ : ∃ t, t = l[j] := ⟨_, rfl⟩
      have a0 : wr.cell? ⟨b, off + j, none⟩ = some (.string ⟨t.toArray⟩) := hcc j _ (by unfold strC; rw [List.getElem?_map, List.getElem?_eq_getElem hlt, ht]; rfl)
      have HTt := Lib.hid ht
      have HM := Lib.hid (ht ▸ List.getElem_mem hlt : t ∈ l)
      clear ht hcc
      go_wp2_with fail
      refine (HP.out t HM.out sj wr HJ.out.src.2).mono ?_
      rintro e w2 ⟨x, he, hx, hstx, hs2⟩
      obtain rfl : e = .returned (.agg #[.int .i64 x.slot, .int .i64 x.entry.view, .string ⟨x.entry.value.toArray⟩, .slice x.entry.cert.a x.entry.cert.l.length x.entry.cert.c]) := he
      have HO2 := Lib.hid (HJ.out.row (by omega) hs2)
      have hz2 : wr.heap.size ≤ w2.heap.size := hs2.1.size
      have hz3 : w1.heap.size ≤ wr.heap.size := HJ.out.size
      have HX := Lib.hid hx
      have HTX := Lib.hid hstx
      have HS2 := Lib.hid hs2
      clear hx hstx hs2 a0
      go_wp2_with (at_builtin; refine wpList_append_own_at _ rfl _ _ 32 rfl w1.heap.size 127 i0 _ 4 56 Tryz.underlying32 HI.out HZ0.out HZ1.out HZ2.out rfl (by decide) _ _ _ rfl (HO2.out.alloc _) ⟨w2.heap.size, 0, none⟩ 1 1 [.int .i64 x.slot, .int .i64 x.entry.view, .string ⟨x.entry.value.toArray⟩, .slice x.entry.cert.a x.entry.cert.l.length x.entry.cert.c] rfl rfl (cell_new _ _ _ _ rfl) (by simp [Value.oneCell']) (by simp [maxLen]; omega) (by omega) (by simp; omega) ?_)
      intro v' w4 hown' hgrow _ hat
      have HN : Hid (PtSt 127 4 hoC Ho.er Ho.ok tkHo w w1.heap.size g (some ⟨b, off, none⟩) l s1 (j + 1) v' (xs ++ [x]) (tkPart tkHo l[j] sj).2 (fun i => F i ∨ (wr.heap.size ≤ i ∧ i < w2.heap.size)) w4) := Lib.hid
        (HJ.out.step hgl hB hlt (by rw [HX.out, HTt.out]) HTX.out (by rw [← HTt.out]; exact HS2.out) (below_new w2 (.cells #[.int .i64 x.slot, .int .i64 x.entry.view, .string ⟨x.entry.value.toArray⟩, .slice x.entry.cert.a x.entry.cert.l.length x.entry.cert.c] 127)) (by simp) hown' hgrow hat)
      clear hown' hgrow hat
      go_wp2_with fail
      go_roundw
      case rel => exact ⟨j + 1, xs ++ [x], _, _, by go_num, by omega, HN.out⟩
      case measure => simp [intOf]; omega
    · obtain rfl : j = l.length := by omega
      obtain ⟨a, c', rfl, hret⟩ := HJ.out.done hB
      have HRet := Lib.hid hret
      clear hret
      go_wp2_with fail
      go_ret
      rw [HR.out]
      exact HRet.out
end Go.Proofs.YtoehakekjlebdaaGreatDoor
/- message.readSnapshot. -/
namespace Go.Proofs.YtoehakekjlebdaaGreatDoor
open Go.RowKit

theorem infoSnn (x : Sn) : (Tryz.prog.info? 34).map (·.size) = some (snC x).length := by
  have : (Tryz.prog.info? 34).map (·.size) = some 5 := by kernel_rfl
  exact this
theorem snC_one' (x : Sn) : (snC x).toArray.all (·.oneCell') = true := by simp [snC, Sl.v, Value.oneCell']
set_option maxRecDepth 100000 in
set_option maxHeartbeats 1000000 in
theorem readSnapshot_any (g : Nat) (s : Sc) (w : World) (hs : Ss w g s) (hl : s.rest.length ≤ 268435456) :
    Calls Tryz.prog 83 #[.pointer (some ⟨g, 0, none⟩)] w (RetX snC Sn.er Sn.ok g (tkSn s) w) := by
  have hgl := hs.lt
  have HTn := tkInts_ok 1 s
  obtain ⟨n0, hn⟩ := one_of _ HTn.1
  obtain ⟨s0, hs0⟩ : ∃ s0, s0 = (tkInts 1 s).2 := ⟨_, rfl⟩
  have HT0 : Hid (tkInts 1 s = ([n0], s0)) := Lib.hid (by rw [hs0, ← hn])
  have HN64 : Hid (∀ x ∈ [n0], I64 x) := Lib.hid (by rw [← hn]; exact HTn.2)
  have HL0 : Hid (s0.rest.length ≤ 268435456) := Lib.hid (by rw [hs0]; exact Nat.le_trans (tkInts_rest 1 s) hl)
  clear HTn hn hs0
  obtain ⟨t1, s1, ht1⟩ : ∃ t s', tkText s0 = (t, s') := ⟨_, _, rfl⟩
  have HL1 : Hid (s1.rest.length ≤ 268435456) := Lib.hid (by have h9 := ag_text.len s0; rw [ht1] at h9; exact Nat.le_trans h9 HL0.out)
  have HT1 := Lib.hid ht1
  clear ht1
  obtain ⟨t2, s2, ht2⟩ : ∃ t s', tkTexts s1 = (t, s') := ⟨_, _, rfl⟩
  have HL2 : Hid (s2.rest.length ≤ 268435456) := Lib.hid (by have h9 := ag_texts.len s1; rw [ht2] at h9; exact Nat.le_trans h9 HL1.out)
  have HT2 := Lib.hid ht2
  clear ht2
  obtain ⟨t3, s3, ht3⟩ : ∃ t s', tkParts tkSg s2 = (t, s') := ⟨_, _, rfl⟩
  have HL3 : Hid (s3.rest.length ≤ 268435456) := Lib.hid (by have h9 := (ag_parts ag_sg).len s2; rw [ht3] at h9; exact Nat.le_trans h9 HL2.out)
  have HT3 := Lib.hid ht3
  clear ht3
  obtain ⟨t4, s4, ht4⟩ : ∃ t s', tkParts tkHo s3 = (t, s') := ⟨_, _, rfl⟩
  have HL4 : Hid (s4.rest.length ≤ 268435456) := Lib.hid (by have h9 := (ag_parts ag_ho).len s3; rw [ht4] at h9; exact Nat.le_trans h9 HL3.out)
  have HT4 := Lib.hid ht4
  clear ht4
  have HSpec : Hid (tkSn s = (⟨n0, t1, Sl.of t2, Sl.of t3, Sl.of t4⟩, s4)) := Lib.hid (by
    unfold tkSn tkThen tkRet
    simp only [HT0.out, HT1.out, HT2.out, HT3.out, HT4.out]
    rfl)
  have HVw := Lib.hid (Vr.new w [.int .i64 0, .string ⟨#[]⟩, .slice none 0 0, .slice none 0 0, .slice none 0 0] 34)
  have HSw := Lib.hid ((SsTo.refl hs).below (((below_new w (.cells #[.int .i64 0, .string ⟨#[]⟩, .slice none 0 0, .slice none 0 0, .slice none 0 0] 34))).drew))
  have HVd := Lib.hid (HVw.out.below (Below.refl _ _).drew)
  have hzd : (w.alloc (.cells #[.int .i64 0, .string ⟨#[]⟩, .slice none 0 0, .slice none 0 0, .slice none 0 0] 34)).drew.heap.size = w.heap.size + 1 := by simp
  have HZd := Lib.hid hzd
  clear hs HVw hzd
  go_enter Tryz.func83, Tryz.ntmps83
  go_wp2_with fail
  refine wp_region_noPanic ?_
  refine wp_region_held_drew (S := fun W => True) (by kernel_rfl) trivial (fun hHeld => ?_)
  refine wpAnyH_take (i := 0) (oi := _) (v := ?_) rfl (by kernel_rfl) (by kernel_rfl) (by kernel_rfl) (fun _ _ _ h => h) (Or.inl ⟨by rfl, ?_⟩) (by assumption) ?_
  rotate_left
  · intro W hSw; (try dsimp only at hSw); go_simp; try with_reducible rfl
  try simp only [Act.put, List.setIfInBounds_toArray]
  refine wpAnyH_take (i := 4) (oi := _) (v := ?_) rfl (by kernel_rfl) (by kernel_rfl) (by kernel_rfl) (fun _ _ _ h => h) (Or.inl ⟨by rfl, ?_⟩) (by assumption) ?_
  rotate_left
  · intro W hSw; (try dsimp only at hSw); go_simp; try with_reducible rfl
  try simp only [Act.put]
  refine wpAnyH_take (i := 6) (oi := _) (v := ?_) rfl (by kernel_rfl) (by kernel_rfl) (by kernel_rfl) (fun _ _ _ h => h) (Or.inl ⟨by rfl, ?_⟩) (by assumption) ?_
  rotate_left
  · intro W hSw; (try dsimp only at hSw); go_simp; try with_reducible rfl
  try simp only [Act.put]
  refine wpAnyH_take (i := 8) (oi := _) (v := ?_) rfl (by kernel_rfl) (by kernel_rfl) (by kernel_rfl) (fun _ _ _ h => h) (Or.inl ⟨by rfl, ?_⟩) (by assumption) ?_
  rotate_left
  · intro W hSw; (try dsimp only at hSw); go_simp; try with_reducible rfl
  try simp only [Act.put]
  refine wpAnyH_take (i := 10) (oi := _) (v := ?_) rfl (by kernel_rfl) (by kernel_rfl) (by kernel_rfl) (fun _ _ _ h => h) (Or.inl ⟨by rfl, ?_⟩) (by assumption) ?_
  rotate_left
  · intro W hSw; (try dsimp only at hSw); go_simp; try with_reducible rfl
  try simp only [Act.put]
  refine wpAnyH_ready (rs := [1]) (by kernel_rfl) (by simp) ?_
  refine AllReadyH.cons (o := _) rfl (fun K hK => ?_) AllReadyH.nil
  go_simp
  go_at_call 65
  refine (ints1_any g s _ HSw.out.2 (Nat.le_trans hl (by decide))).mono ?_
  rintro e w0 ⟨A, c, he, hst0, hss0⟩
  rw [HT0.out] at he hst0 hss0
  obtain rfl : e = .returned (.slice A 1 c) := he
  simp only at hss0
  rw [HZd.out] at hst0
  have h0 := hss0.1.size
  rw [HZd.out] at h0
  have HS0 : Hid (SsTo w g s0 w0) := Lib.hid (HSw.out.trans hss0)
  have HV0 := Lib.hid (HVd.out.grown hss0.1 (by omega))
  have HR0 := Lib.hid hst0
  obtain ⟨b, off, hA, hbl, hcc⟩ := ints_cells hst0.out (by simp)
  subst hA
  have HC0 : Hid (w0.cell? ⟨b, off, none⟩ = some (.int .i64 n0)) := Lib.hid (hcc 0 _ rfl)
  have HCW : Hid (∀ W, Keeps (w.heap.size + 1) w0 W → W.cell? ⟨b, off, none⟩ = some (.int .i64 n0)) := Lib.hid (fun W hW => by
    obtain ⟨b2, o2, hA2, _, hc2⟩ := ints_cells (hst0 W hW) (by simp)
    simp only [Option.some.injEq, Addr.mk.injEq] at hA2
    obtain ⟨rfl, rfl, _⟩ := hA2
    exact hc2 0 _ rfl)
  clear hss0 hst0 hcc HSw HVd HZd
  go_wp2_with fail
  refine hK.out _ _ trivial (fun hHeld => ?_)
  clear hK K
  try simp only [Act.put, List.setIfInBounds_toArray, List.set_cons_zero, List.set_cons_succ]
  refine wpAnyH_strong (S' := fun W => W.cell? ⟨b, off, none⟩ = some (.int .i64 n0)) (fun _ _ => trivial) _ _ _ _ ?_
  have hHeld2 := HC0.out
  have HK0 := Lib.hid (Keeps.refl (w.heap.size + 1) w0)
  refine wpAnyH_take (i := 2) (oi := _) (v := ?_) rfl (by kernel_rfl) (by kernel_rfl) (by kernel_rfl) (fun _ _ _ h => h) (Or.inl ⟨by rfl, ?_⟩) (by assumption) ?_
  rotate_left
  · intro W hSw; (try dsimp only at hSw); go_simp; try with_reducible rfl
  try simp only [Act.put, List.setIfInBounds_toArray]
  refine wpAnyH_take (i := 3) (oi := _) (v := ?_) rfl (by kernel_rfl) (by kernel_rfl) (by kernel_rfl) (fun _ _ _ h => h) (Or.inl ⟨by rfl, ?_⟩) (by assumption) ?_
  rotate_left
  · intro W hSw; (try dsimp only at hSw); go_simp; try with_reducible rfl
  try simp only [Act.put]
  refine wpAnyH_ready (rs := [5]) (by kernel_rfl) (by simp) ?_
  refine AllReadyH.cons (o := _) rfl (fun K hK => ?_) AllReadyH.nil
  go_simp
  go_at_call 66
  refine (text_any g s0 _ (HS0.out.2) (Nat.le_trans HL0.out (by decide))).mono ?_
  rintro e w1 ⟨rfl, hss1⟩
  rw [show tkText s0 = (t1, s1) from HT1.out] at hss1 ⊢
  simp only at hss1 ⊢
  have hz1 := hss1.1.size
  have hy0 := HS0.out.1.size
  have HK1 : Hid (Keeps (w.heap.size + 1) w0 w1) := Lib.hid (HK0.out.trans (keeps_grown hss1.1 (by omega)))
  have HS1 : Hid (SsTo w g s1 w1) := Lib.hid (HS0.out.trans hss1)
  have HV1 := Lib.hid (HV0.out.grown hss1.1 (by omega))
  have hC1 := HCW.out w1 HK1.out
  clear hss1
  go_wp2_with fail
  refine hK.out _ _ hC1 (fun hHeld => ?_)
  clear hK K
  try simp only [Act.put, List.setIfInBounds_toArray, List.set_cons_zero, List.set_cons_succ]
  refine wpAnyH_ready (rs := [7]) (by kernel_rfl) (by simp) ?_
  refine AllReadyH.cons (o := _) rfl (fun K hK => ?_) AllReadyH.nil
  go_simp
  go_at_call 84
  refine (texts_any g s1 _ (HS1.out.2) (Nat.le_trans HL1.out (by decide))).mono ?_
  rintro e w2 ⟨a2, c2, he2, hst2, hss2⟩
  rw [show tkTexts s1 = (t2, s2) from HT2.out] at hss2 hst2 he2
  simp only at hss2 hst2 he2
  subst he2
  have hz2 := hss2.1.size
  have hy1 := HS1.out.1.size
  have HK2 : Hid (Keeps (w.heap.size + 1) w0 w2) := Lib.hid (HK1.out.trans (keeps_grown hss2.1 (by omega)))
  have HS2 : Hid (SsTo w g s2 w2) := Lib.hid (HS1.out.trans hss2)
  have HV2 := Lib.hid (HV1.out.grown hss2.1 (by omega))
  have hC2 := HCW.out w2 HK2.out
  have HR2_2 := Lib.hid (hst2.low (b' := w.heap.size + 1) (by have := HV1.out.lt; omega))
  clear hst2
  clear hss2
  go_wp2_with fail
  refine hK.out _ _ hC2 (fun hHeld => ?_)
  clear hK K
  try simp only [Act.put, List.setIfInBounds_toArray, List.set_cons_zero, List.set_cons_succ]
  refine wpAnyH_ready (rs := [9]) (by kernel_rfl) (by simp) ?_
  refine AllReadyH.cons (o := _) rfl (fun K hK => ?_) AllReadyH.nil
  go_simp
  go_at_call 67
  refine (partsSg_any g s2 _ (HS2.out.2) HL2.out (fun t ht q W hW => signature_x q ⟨t, false⟩ W hW (Nat.le_trans (Nat.le_trans ht HL2.out) (by decide)))).mono ?_
  rintro e w3 ⟨x3, rfl, hx3, hst3, hss3⟩
  rw [show tkParts tkSg s2 = (t3, s3) from HT3.out] at hss3 hx3
  simp only at hss3 hx3
  have HX3 := Lib.hid hx3
  clear hx3
  have hz3 := hss3.1.size
  have hy2 := HS2.out.1.size
  have HK3 : Hid (Keeps (w.heap.size + 1) w0 w3) := Lib.hid (HK2.out.trans (keeps_grown hss3.1 (by omega)))
  have HS3 : Hid (SsTo w g s3 w3) := Lib.hid (HS2.out.trans hss3)
  have HV3 := Lib.hid (HV2.out.grown hss3.1 (by omega))
  have hC3 := HCW.out w3 HK3.out
  have HR2_3 := Lib.hid (HR2_2.out.on (keeps_grown hss3.1 (by omega)))
  have HR3_3 := Lib.hid (hst3.low (b' := w.heap.size + 1) (by have := HV2.out.lt; omega))
  clear hst3
  clear hss3
  go_wp2_with fail
  refine hK.out _ _ hC3 (fun hHeld => ?_)
  clear hK K
  try simp only [Act.put, List.setIfInBounds_toArray, List.set_cons_zero, List.set_cons_succ]
  refine wpAnyH_ready (rs := [11]) (by kernel_rfl) (by simp) ?_
  refine AllReadyH.cons (o := _) rfl (fun K hK => ?_) AllReadyH.nil
  go_simp
  go_at_call 111
  refine (partsHo_any g s3 _ (HS3.out.2) HL3.out (fun t ht q W hW => readHandover_any q ⟨t, false⟩ W hW (Nat.le_trans ht HL3.out))).mono ?_
  rintro e w4 ⟨x4, rfl, hx4, hst4, hss4⟩
  rw [show tkParts tkHo s3 = (t4, s4) from HT4.out] at hss4 hx4
  simp only at hss4 hx4
  have HX4 := Lib.hid hx4
  clear hx4
  have hz4 := hss4.1.size
  have hy3 := HS3.out.1.size
  have HK4 : Hid (Keeps (w.heap.size + 1) w0 w4) := Lib.hid (HK3.out.trans (keeps_grown hss4.1 (by omega)))
  have HS4 : Hid (SsTo w g s4 w4) := Lib.hid (HS3.out.trans hss4)
  have HV4 := Lib.hid (HV3.out.grown hss4.1 (by omega))
  have hC4 := HCW.out w4 HK4.out
  have HR2_4 := Lib.hid (HR2_3.out.on (keeps_grown hss4.1 (by omega)))
  have HR3_4 := Lib.hid (HR3_3.out.on (keeps_grown hss4.1 (by omega)))
  have HR4_4 := Lib.hid (hst4.low (b' := w.heap.size + 1) (by have := HV3.out.lt; omega))
  clear hst4
  clear hss4
  go_wp2_with fail
  refine hK.out _ _ hC4 (fun hHeld => ?_)
  clear hK K
  try simp only [Act.put, List.setIfInBounds_toArray, List.set_cons_zero, List.set_cons_succ]
  refine wpAnyH_take (i := 12) (oi := _) (v := ?_) rfl (by kernel_rfl) (by kernel_rfl) (by kernel_rfl) (fun _ _ _ h => h) (Or.inl ⟨by rfl, ?_⟩) (by assumption) ?_
  rotate_left
  · intro W hSw; (try dsimp only at hSw); go_simp; try with_reducible rfl
  try simp only [Act.put, List.setIfInBounds_toArray]
  refine wpAnyH_ready (rs := [13]) (by kernel_rfl) (by simp) ?_
  refine AllReadyH.cons (o := _) rfl (fun K hK => ?_) AllReadyH.nil
  rw [if_pos (by rfl)]
  refine wp_store_mid 34 _ _ rfl w.heap.size 0 (snC ⟨n0, t1, ⟨a2, c2, t2⟩, x3, x4⟩).toArray rfl rfl (HV4.out.there rfl) (infoSnn ⟨n0, t1, ⟨a2, c2, t2⟩, x3, x4⟩) (snC_one' ⟨n0, t1, ⟨a2, c2, t2⟩, x3, x4⟩) ?_
  have hKe : Keeps (w.heap.size + 1) w4 (w4.setCells w.heap.size 0 (snC ⟨n0, t1, ⟨a2, c2, t2⟩, x3, x4⟩)) := keeps_grown (grown_vs (b := w.heap.size) _) (by omega)
  have hCe := HCW.out _ (HK4.out.trans hKe)
  have HKe := Lib.hid hKe
  have HSe := Lib.hid (HS4.out.own (grown_vs (b := w.heap.size) (snC ⟨n0, t1, ⟨a2, c2, t2⟩, x3, x4⟩)) (Nat.le_refl _) (by omega))
  have HVe := Lib.hid (HV4.out.sets (snC ⟨n0, t1, ⟨a2, c2, t2⟩, x3, x4⟩) rfl)
  clear hKe
  refine hK.out _ _ hCe (fun hHeld => ?_)
  clear hK K
  try simp only [Act.put]
  refine wpAnyH_done (by kernel_rfl) ?_ _
  refine NoPanic.normal ?_
  go_wp2_with fail
  refine bodyPost_ret (v := .agg (snC ⟨n0, t1, ⟨a2, c2, t2⟩, x3, x4⟩).toArray) ?_ rfl (ret_x (x := ⟨n0, t1, ⟨a2, c2, t2⟩, x3, x4⟩) HSpec.out rfl ?_ ?_ HSe.out)
  · exact results_mid Tryz.results83 _ _ w.heap.size (snC ⟨n0, t1, ⟨a2, c2, t2⟩, x3, x4⟩) _ rfl HVe.out.range Tryz.underlying34 rfl (infoSnn ⟨n0, t1, ⟨a2, c2, t2⟩, x3, x4⟩)
  · show Sn.mk n0 t1 (Sl.er ⟨a2, c2, t2⟩) x3.er (Sl.of (x4.l.map Ho.er)) = _
    have h3 := HX3.out
    rw [List.map_id] at h3
    rw [HX4.out, Sl.er, Sl.er, h3]; rfl
  · exact fun W hW => ⟨HN64.out n0 (by simp), by have h9 := (HR2_4.out.on HKe.out).low (b' := w.heap.size) (by omega) W hW; show Rd W 1 a2 t2.length (t2.flatMap strV); rw [strV_strC]; exact h9, (HR3_4.out.on HKe.out).low (by omega) W hW, (HR4_4.out.on HKe.out).low (by omega) W hW⟩
end Go.Proofs.YtoehakekjlebdaaGreatDoor
/- message.part at snapshots. -/
namespace Go.Proofs.YtoehakekjlebdaaGreatDoor
open Go.RowKit

set_option maxRecDepth 100000 in
set_option maxHeartbeats 1000000 in
theorem partSn_any (g : Nat) (s : Sc) (t : List UInt8) (w : World) (hs : Ss w g s)
    (HF : ∀ q W, Ss W q ⟨t, false⟩ → Calls Tryz.prog 83 #[.pointer (some ⟨q, 0, none⟩)] W (RetX snC Sn.er Sn.ok q (tkSn ⟨t, false⟩) W)) :
    Calls Tryz.prog 82 #[.pointer (some ⟨g, 0, none⟩), .string ⟨t.toArray⟩, .func (.func 83) #[] #[]] w (RetX snC Sn.er Sn.ok g (tkPart tkSn t s) w) := by
  obtain ⟨r, b⟩ := s
  have hgl := hs.lt
  obtain ⟨y, hy⟩ : ∃ y, y = tkSn ⟨t, false⟩ := ⟨_, rfl⟩
  obtain ⟨y1, r', b'⟩ := y
  have HR : Hid (tkPart tkSn t ⟨r, b⟩ = (y1, ⟨r, b || b' || !r'.isEmpty⟩)) := Lib.hid (by unfold tkPart; rw [← hy])
  have HFX := Lib.hid HF
  have HY := Lib.hid hy
  have HV0 := Lib.hid (Vr.new w [.int .i64 0, .string ⟨#[]⟩, .slice none 0 0, .slice none 0 0, .slice none 0 0] 34)
  have HV1 := Lib.hid (HV0.out.below (below_new (w.alloc (.cells #[.int .i64 0, .string ⟨#[]⟩, .slice none 0 0, .slice none 0 0, .slice none 0 0] 34)) (.cells #[.string ⟨t.toArray⟩, .bool false] 58)))
  have HS1 := Lib.hid (((SsTo.refl hs).alloc (.cells #[.int .i64 0, .string ⟨#[]⟩, .slice none 0 0, .slice none 0 0, .slice none 0 0] 34)).alloc (.cells #[.string ⟨t.toArray⟩, .bool false] 58))
  have HQ1 := Lib.hid (Ss.new' (w.alloc (.cells #[.int .i64 0, .string ⟨#[]⟩, .slice none 0 0, .slice none 0 0, .slice none 0 0] 34)) t false 58 (g := w.heap.size + 1) (by simp))
  have HZ1 : Hid (((w.alloc (.cells #[.int .i64 0, .string ⟨#[]⟩, .slice none 0 0, .slice none 0 0, .slice none 0 0] 34)).alloc (.cells #[.string ⟨t.toArray⟩, .bool false] 58)).heap.size = w.heap.size + 2) := Lib.hid (by simp)
  clear hs hy HF HV0
  go_enter Tryz.func82, Tryz.ntmps82
  go_wp2_with fail
  refine (HFX.out (w.heap.size + 1) _ HQ1.out).mono ?_
  rintro e w2 ⟨x, he, hx, hst, hss⟩
  rw [← HY.out] at hss hx
  obtain rfl : e = .returned (.agg #[.int .i64 x.slot, .string ⟨x.root.toArray⟩, .slice x.chunks.a x.chunks.l.length x.chunks.c, .slice x.proof.a x.proof.l.length x.proof.c, .slice x.chain.a x.chain.l.length x.chain.c]) := he
  rw [HZ1.out] at hst
  have h2 := hss.1.size
  rw [HZ1.out] at h2
  have HV2 := Lib.hid ((HV1.out.grown hss.1 (by omega)).below (below_new w2 (.cells #[.int .i64 x.slot, .string ⟨x.root.toArray⟩, .slice x.chunks.a x.chunks.l.length x.chunks.c, .slice x.proof.a x.proof.l.length x.proof.c, .slice x.chain.a x.chain.l.length x.chain.c] 34)))
  have HS2 := Lib.hid ((HS1.out.own hss.1 (by omega) (by omega)).alloc (.cells #[.int .i64 x.slot, .string ⟨x.root.toArray⟩, .slice x.chunks.a x.chunks.l.length x.chunks.c, .slice x.proof.a x.proof.l.length x.proof.c, .slice x.chain.a x.chain.l.length x.chain.c] 34))
  have HQ2 := Lib.hid (hss.2.alloc (.cells #[.int .i64 x.slot, .string ⟨x.root.toArray⟩, .slice x.chunks.a x.chunks.l.length x.chunks.c, .slice x.proof.a x.proof.l.length x.proof.c, .slice x.chain.a x.chain.l.length x.chain.c] 34))
  have HX2 := Lib.hid (Vr.new w2 (snC x) 34)
  have HT2 := Lib.hid (hst.on (keeps_below _ (below_new w2 (.cells #[.int .i64 x.slot, .string ⟨x.root.toArray⟩, .slice x.chunks.a x.chunks.l.length x.chunks.c, .slice x.proof.a x.proof.l.length x.proof.c, .slice x.chain.a x.chain.l.length x.chain.c] 34))))
  have HX := Lib.hid hx
  clear hx hst hss HV1 HS1 HQ1 HZ1
  go_upto_region 3 with fail
  generalize hw3 : w2.alloc (.cells #[.int .i64 x.slot, .string ⟨x.root.toArray⟩, .slice x.chunks.a x.chunks.l.length x.chunks.c, .slice x.proof.a x.proof.l.length x.proof.c, .slice x.chain.a x.chain.l.length x.chain.c] 34) = w3 at HV2 HS2 HQ2 HT2
  have HX3 : Hid (Vr w3 w2.heap.size (snC x)) := Lib.hid (hw3 ▸ HX2.out)
  try rw [hw3]
  clear hw3 HX2
  have c1 := HS2.out.2.c1
  have f1 := HS2.out.2.f1
  have dl := HS2.out.2.lt
  have q0 := HQ2.out.c0
  have q1 := HQ2.out.c1
  have ql := HQ2.out.lt
  simp only at c1 q0 q1
  have HVz : Hid (∀ v : Bool, Vr (w3.setCell ⟨g, 1, none⟩ (.bool v)) w.heap.size [.int .i64 0, .string ⟨#[]⟩, .slice none 0 0, .slice none 0 0, .slice none 0 0]) := Lib.hid (fun v => HV2.out.grown (grown_set w3 ⟨g, 1, none⟩ (.bool v)) (by show w.heap.size ≠ g; omega))
  have HXz : Hid (∀ v : Bool, Vr (w3.setCell ⟨g, 1, none⟩ (.bool v)) w2.heap.size (snC x)) := Lib.hid (fun v => HX3.out.grown (grown_set w3 ⟨g, 1, none⟩ (.bool v)) (by show w2.heap.size ≠ g; omega))
  have HFin : Hid (∀ v : Bool, v = (b || b' || !r'.isEmpty) → RetX snC Sn.er Sn.ok g (tkPart tkSn t ⟨r, b⟩) w (.returned (.agg (snC x).toArray)) ((w3.setCell ⟨g, 1, none⟩ (.bool v)).setCells w.heap.size 0 (snC x))) := Lib.hid (fun v hv =>
    ret_x HR.out rfl HX.out (((HT2.out.on (keeps_grown (grown_set w3 ⟨g, 1, none⟩ (.bool v)) (by show g < w.heap.size + 2; omega))).on (keeps_grown (grown_vs (b := w.heap.size) (snC x)) (by omega))).low (by omega))
      (((HS2.out.set1 v).own (grown_vs (b := w.heap.size) (snC x)) (Nat.le_refl _) (by omega)).eq (by rw [hv])))
  cases b
  · cases b'
    · cases r'
      · go_wp2_with (first
          | (refine wpList_load_mid rfl 34 _ rfl w2.heap.size 0 rfl (snC x) _ (HXz.out false).range Tryz.underlying34 rfl (infoSnn x) ?_)
          | (refine wpList_store_mid rfl 34 _ _ rfl w.heap.size 0 (snC x).toArray rfl rfl ((HVz.out false).there rfl) (infoSnn x) (snC_one' x) ?_))
        refine bodyPost_ret (v := .agg (snC x).toArray) ?_ rfl (HFin.out false rfl)
        exact results_mid Tryz.results82 _ _ w.heap.size (snC x) _ rfl ((HVz.out false).sets (snC x) rfl).range Tryz.underlying34 rfl (infoSnn x)
      · go_wp2_with (first
          | (refine wpList_load_mid rfl 34 _ rfl w2.heap.size 0 rfl (snC x) _ (HXz.out true).range Tryz.underlying34 rfl (infoSnn x) ?_)
          | (refine wpList_store_mid rfl 34 _ _ rfl w.heap.size 0 (snC x).toArray rfl rfl ((HVz.out true).there rfl) (infoSnn x) (snC_one' x) ?_))
        refine bodyPost_ret (v := .agg (snC x).toArray) ?_ rfl (HFin.out true rfl)
        exact results_mid Tryz.results82 _ _ w.heap.size (snC x) _ rfl ((HVz.out true).sets (snC x) rfl).range Tryz.underlying34 rfl (infoSnn x)
    · go_wp2_with (first
        | (refine wpList_load_mid rfl 34 _ rfl w2.heap.size 0 rfl (snC x) _ (HXz.out true).range Tryz.underlying34 rfl (infoSnn x) ?_)
        | (refine wpList_store_mid rfl 34 _ _ rfl w.heap.size 0 (snC x).toArray rfl rfl ((HVz.out true).there rfl) (infoSnn x) (snC_one' x) ?_))
      refine bodyPost_ret (v := .agg (snC x).toArray) ?_ rfl (HFin.out true rfl)
      exact results_mid Tryz.results82 _ _ w.heap.size (snC x) _ rfl ((HVz.out true).sets (snC x) rfl).range Tryz.underlying34 rfl (infoSnn x)
  · go_wp2_with (first
      | (refine wpList_load_mid rfl 34 _ rfl w2.heap.size 0 rfl (snC x) _ (HXz.out true).range Tryz.underlying34 rfl (infoSnn x) ?_)
      | (refine wpList_store_mid rfl 34 _ _ rfl w.heap.size 0 (snC x).toArray rfl rfl ((HVz.out true).there rfl) (infoSnn x) (snC_one' x) ?_))
    refine bodyPost_ret (v := .agg (snC x).toArray) ?_ rfl (HFin.out true (by simp))
    exact results_mid Tryz.results82 _ _ w.heap.size (snC x) _ rfl ((HVz.out true).sets (snC x) rfl).range Tryz.underlying34 rfl (infoSnn x)
end Go.Proofs.YtoehakekjlebdaaGreatDoor
