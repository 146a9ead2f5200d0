/- The reference's readEntry. -/
import Derived.Test.YtoehakekjlebdaaGreatDoorZGa
import Derived.Test.YtoehakekjlebdaaGreatDoorZSd
namespace Go.Proofs.YtoehakekjlebdaaGreatDoor
open Go.RowKit

theorem rk_len {α : Type} {p : Pr α} (d : α) (hp : ∀ s x q, p s = some (x, q) → q.length ≤ s.length) (r : Rc) : (rk p d r).2.s.length ≤ r.s.length := by
  obtain ⟨s, b⟩ := r
  cases b
  · simp [rk, Rc.fail]
  · unfold rk
    simp only [if_true]
    cases h : p s with
    | none => simp [Rc.fail]
    | some y => exact hp s y.1 y.2 h
theorem rkInts_len (n : Nat) (r : Rc) : (rkInts n r).2.s.length ≤ r.s.length := rk_len _ (fun s x q h => by have := (rdInts_sz h).2; omega) r
theorem rkText_len2 (r : Rc) : (rkText r).2.s.length ≤ r.s.length := (rkText_len r).2
theorem rkTexts_len2 (r : Rc) : (rkTexts r).2.s.length ≤ r.s.length := (rkTexts_len r).2
theorem rkSgs_len (r : Rc) : (rkSgs r).2.s.length ≤ r.s.length := rk_len _ (fun s x q h => by have := rdParts_sz rdSg_sz h; omega) r
theorem rkOne_len (r : Rc) : (rkOne r).2.s.length ≤ r.s.length := rk_len _ (fun s x q h => by have := rdPart_sz rdSg_sz h; omega) r
theorem rkInts_ok (n : Nat) (r : Rc) : (rkInts n r).1.length = n ∧ ∀ x ∈ (rkInts n r).1, I64 x := by
  have hz : (List.replicate n (0 : Int)).length = n ∧ ∀ x ∈ List.replicate n (0 : Int), I64 x := ⟨by simp, fun x hx => by rw [List.mem_replicate] at hx; rw [hx.2]; exact ⟨by decide, by decide⟩⟩
  obtain ⟨s, b⟩ := r
  cases b
  · exact hz
  · unfold rkInts rk
    simp only [if_true]
    cases h : rdInts n s with
    | none => exact hz
    | some y =>
      have h1 := (ag_ints n).some ⟨s, false⟩ y.1 y.2 rfl h
      have h2 := tkInts_ok n ⟨s, false⟩
      rw [h1] at h2
      exact h2
set_option maxRecDepth 100000 in
set_option maxHeartbeats 2000000 in
theorem refReadEntry_any (r : Rc) (w : World) (hl : r.s.length ≤ 268435456) :
    Calls Tryz.prog 40 #[.agg #[.string ⟨r.s.toArray⟩, .bool r.ok]] w (RetRX deC De.er De.ok (rkDe r) w) := by
  have HTn := rkInts_ok 1 r
  obtain ⟨n0, hn⟩ := one_of _ HTn.1
  obtain ⟨r0, hr0⟩ : ∃ r0, r0 = (rkInts 1 r).2 := ⟨_, rfl⟩
  have HT0 : Hid (rkInts 1 r = ([n0], r0)) := Lib.hid (by rw [hr0, ← hn])
  have HN64 : Hid (∀ x ∈ [n0], I64 x) := Lib.hid (by rw [← hn]; exact HTn.2)
  have HL0 : Hid (r0.s.length ≤ 268435456) := Lib.hid (by rw [hr0]; exact Nat.le_trans (rkInts_len 1 r) hl)
  clear HTn hn hr0
  obtain ⟨t1, r1, ht1⟩ : ∃ t s', rkText r0 = (t, s') := ⟨_, _, rfl⟩
  have HL1 : Hid (r1.s.length ≤ 268435456) := Lib.hid (by have h9 := rkText_len2 r0; rw [ht1] at h9; exact Nat.le_trans h9 HL0.out)
  have HTL1 : Hid (t1.length ≤ 268435456) := Lib.hid (by have h9 := (rkText_len r0).1; rw [ht1] at h9; exact Nat.le_trans h9 HL0.out)
  have HT1 := Lib.hid ht1
  clear ht1
  obtain ⟨t2, r2, ht2⟩ : ∃ t s', rkSgs r1 = (t, s') := ⟨_, _, rfl⟩
  have HL2 : Hid (r2.s.length ≤ 268435456) := Lib.hid (by have h9 := rkSgs_len r1; rw [ht2] at h9; exact Nat.le_trans h9 HL1.out)
  have HT2 := Lib.hid ht2
  clear ht2
  have HSpec : Hid (rkDe r = (⟨n0, t1, Sl.of t2⟩, r2)) := Lib.hid (by
    unfold rkDe rkThen rkRet
    simp only [HT0.out, HT1.out, HT2.out]
    rfl)
  obtain ⟨wa, hwa⟩ : ∃ wa, wa = ((w.alloc (.cells (rcC r).toArray 63)).alloc (.cells #[.int .i64 0, .string ⟨#[]⟩, .slice none 0 0] 78)).alloc (.cells (rcC Rc.fail).toArray 63) := ⟨_, rfl⟩
  have HR : Hid (Vr wa w.heap.size (rcC r)) := Lib.hid (by rw [hwa]; exact ((Vr.new w (rcC r) 63).below (below_new _ _)).below (below_new _ _))
  have HV : Hid (Vr wa (w.heap.size + 1) [.int .i64 0, .string ⟨#[]⟩, .slice none 0 0]) := Lib.hid (by rw [hwa]; exact (Vr.new' _ [.int .i64 0, .string ⟨#[]⟩, .slice none 0 0] 78 (by simp)).below (below_new _ _))
  have HQ : Hid (Vr wa (w.heap.size + 2) (rcC Rc.fail)) := Lib.hid (by rw [hwa]; exact Vr.new' _ (rcC Rc.fail) 63 (by simp))
  have HB : Hid (Below w.heap.size w wa) := Lib.hid (by rw [hwa]; exact bon (bon (below_new _ _) (below_new _ _)) (below_new _ _))
  have HZa : Hid (wa.heap.size = w.heap.size + 3) := Lib.hid (by rw [hwa]; simp)
  have hwa2 : ((w.alloc (.cells #[.string ⟨r.s.toArray⟩, .bool r.ok] 63)).alloc (.cells #[.int .i64 0, .string ⟨#[]⟩, .slice none 0 0] 78)).alloc (.cells #[.string ⟨#[]⟩, .bool false] 63) = wa := hwa.symm
  have HW := Lib.hid hwa2
  clear hwa hwa2
  go_enter Tryz.func40, Tryz.ntmps40
  go_upto_region 1 with fail
  rw [HW.out]
  go_wp2_with (refine wpList_load_mid rfl 63 _ rfl w.heap.size 0 rfl (rcC r) _ HR.out.range Tryz.underlying63 rfl (infoRc r) ?_)
  refine (refInts1_any r wa hl).mono ?_
  rintro e u1 ⟨A, c, he, hst0, hb⟩
  rw [HT0.out] at he hst0
  obtain rfl : e = .returned (.tuple #[.slice A 1 c, .agg (rcC r0).toArray]) := he
  rw [HZa.out] at hst0
  have h3 := hb.size
  rw [HZa.out] at h3
  have HR := Lib.hid (HR.out.below hb)
  have HV := Lib.hid (HV.out.below hb)
  have HQ := Lib.hid (HQ.out.below hb)
  have HB := Lib.hid (bon HB.out hb)
  have HRo := HR
  have HV := Lib.hid (HV.out.grown (grown_vs (b := w.heap.size) (rcC r0)) (by omega))
  have HQ := Lib.hid (HQ.out.grown (grown_vs (b := w.heap.size) (rcC r0)) (by omega))
  have HB := Lib.hid (below_gr HB.out (grown_vs (b := w.heap.size) (rcC r0)) (Nat.le_refl _))
  have HN := Lib.hid (hst0.on (keeps_grown (grown_vs (b := w.heap.size) (rcC r0)) (by omega)))
  have HR := Lib.hid (HR.out.sets (rcC r0) rfl)
  clear hb hst0
  go_upto_region 2 with (refine wpList_store_mid rfl 63 _ _ rfl w.heap.size 0 (rcC r0).toArray rfl rfl ?_ (infoRc r0) (rcC_one r0) ?_; · exact HRo.out.there (n := 2) rfl)
  try simp only [List.toList_toArray]
  clear HRo
  generalize u1.setCells w.heap.size 0 (rcC r0) = u2 at HR HV HQ HB HN ⊢
  have h5 : w.heap.size + 2 < u2.heap.size := HQ.out.lt
  obtain ⟨b, off, hA, hbl, hcc⟩ := ints_cells HN.out.out (by simp)
  subst hA
  have a0 : u2.cell? ⟨b, off, none⟩ = some (.int .i64 n0) := hcc 0 _ rfl
  have HX := Lib.hid (Vr.new u2 (deC ⟨n0, [], Sl.nil⟩) 78)
  have HR := Lib.hid (HR.out.below (below_new u2 (.cells (deC ⟨n0, [], Sl.nil⟩).toArray 78)))
  have HV := Lib.hid (HV.out.below (below_new u2 (.cells (deC ⟨n0, [], Sl.nil⟩).toArray 78)))
  have HQ := Lib.hid (HQ.out.below (below_new u2 (.cells (deC ⟨n0, [], Sl.nil⟩).toArray 78)))
  have HB := Lib.hid (bon HB.out (below_new u2 (.cells (deC ⟨n0, [], Sl.nil⟩).toArray 78)))
  clear hcc hbl HN
  go_upto_region 3 with fail
  obtain ⟨u3, hu3⟩ : ∃ u3, u3 = u2.alloc (.cells (deC ⟨n0, [], Sl.nil⟩).toArray 78) := ⟨_, rfl⟩
  rw [← hu3] at HX HR HV HQ HB
  change Code.wp _ _ _ _ (u2.alloc (.cells (deC ⟨n0, [], Sl.nil⟩).toArray 78))
  rw [← hu3]
  generalize u2.heap.size = b5 at HX h5 ⊢
  clear hu3 a0
  go_wp2_with (refine wpList_load_mid rfl 63 _ rfl w.heap.size 0 rfl (rcC r0) _ HR.out.range Tryz.underlying63 rfl (infoRc r0) ?_)
  refine (refText_any r0 _ HL0.out).mono ?_
  rintro e u4 ⟨he, hb⟩
  rw [HT1.out] at he
  obtain rfl : e = .returned (.tuple #[.string ⟨t1.toArray⟩, .agg (rcC r1).toArray]) := he
  have HR := Lib.hid (HR.out.below hb)
  have HX := Lib.hid (HX.out.below hb)
  have HV := Lib.hid (HV.out.below hb)
  have HQ := Lib.hid (HQ.out.below hb)
  have HB := Lib.hid (bon HB.out hb)
  clear hb
  have cx := HX.out.cells 1 _ rfl
  have fx := HX.out.free 1 (of_decide_eq_true rfl)
  have lx := HX.out.lt
  have HR := Lib.hid (HR.out.grown (grown_set u4 ⟨b5, 1, none⟩ (.string ⟨t1.toArray⟩)) (by show w.heap.size ≠ b5; omega))
  have HX := Lib.hid ((HX.out.set 1 (.string ⟨t1.toArray⟩)).eq (cs' := deC ⟨n0, t1, Sl.nil⟩) rfl)
  have HV := Lib.hid (HV.out.grown (grown_set u4 ⟨b5, 1, none⟩ (.string ⟨t1.toArray⟩)) (by show (w.heap.size + 1) ≠ b5; omega))
  have HQ := Lib.hid (HQ.out.grown (grown_set u4 ⟨b5, 1, none⟩ (.string ⟨t1.toArray⟩)) (by show (w.heap.size + 2) ≠ b5; omega))
  have HB := Lib.hid (below_gr HB.out (grown_set u4 ⟨b5, 1, none⟩ (.string ⟨t1.toArray⟩)) (by show w.heap.size ≤ b5; omega))
  have HRo := HR
  have HR := Lib.hid (HR.out.sets (rcC r1) rfl)
  have HX := Lib.hid (HX.out.grown (grown_vs (w := (u4.setCell ⟨b5, 1, none⟩ (.string ⟨t1.toArray⟩))) (b := w.heap.size) (rcC r1)) (by show b5 ≠ w.heap.size; omega))
  have HV := Lib.hid (HV.out.grown (grown_vs (w := (u4.setCell ⟨b5, 1, none⟩ (.string ⟨t1.toArray⟩))) (b := w.heap.size) (rcC r1)) (by show (w.heap.size + 1) ≠ w.heap.size; omega))
  have HQ := Lib.hid (HQ.out.grown (grown_vs (w := (u4.setCell ⟨b5, 1, none⟩ (.string ⟨t1.toArray⟩))) (b := w.heap.size) (rcC r1)) (by show (w.heap.size + 2) ≠ w.heap.size; omega))
  have HB := Lib.hid (below_gr HB.out (grown_vs (w := (u4.setCell ⟨b5, 1, none⟩ (.string ⟨t1.toArray⟩))) (b := w.heap.size) (rcC r1)) (by show w.heap.size ≤ w.heap.size; omega))
  go_upto_region 4 with (first | (refine wpList_store_mid rfl 63 _ _ rfl w.heap.size 0 (rcC r1).toArray rfl rfl ?_ (infoRc r1) (rcC_one r1) ?_; · exact HRo.out.there (n := 2) rfl))
  try simp only [List.toList_toArray]
  clear HRo cx fx lx
  generalize ((u4.setCell ⟨b5, 1, none⟩ (.string ⟨t1.toArray⟩)).setCells w.heap.size 0 (rcC r1)) = u5 at HR HX HV HQ HB  ⊢
  go_wp2_with (refine wpList_load_mid rfl 63 _ rfl w.heap.size 0 rfl (rcC r1) _ HR.out.range Tryz.underlying63 rfl (infoRc r1) ?_)
  refine (refSigned_any r1 _ HL1.out).mono ?_
  rintro e u6 ⟨a2, c2, he, hst, hb⟩
  rw [HT2.out] at he hst
  obtain rfl : e = .returned (.tuple #[.slice a2 t2.length c2, .agg (rcC r2).toArray]) := he
  have HR2 := Lib.hid (held_new (a := w.heap.size + 3) (b4 := b5) hst (by have := HX.out.lt; have := HQ.out.lt; omega) (Or.inl HX.out.lt))
  have HR := Lib.hid (HR.out.below hb)
  have HX := Lib.hid (HX.out.below hb)
  have HV := Lib.hid (HV.out.below hb)
  have HQ := Lib.hid (HQ.out.below hb)
  have HB := Lib.hid (bon HB.out hb)
  clear hst
  clear hb
  have cx := HX.out.cells 2 _ rfl
  have fx := HX.out.free 2 (of_decide_eq_true rfl)
  have lx := HX.out.lt
  have HR := Lib.hid (HR.out.grown (grown_set u6 ⟨b5, 2, none⟩ (.slice a2 t2.length c2)) (by show w.heap.size ≠ b5; omega))
  have HX := Lib.hid ((HX.out.set 2 (.slice a2 t2.length c2)).eq (cs' := deC ⟨n0, t1, ⟨a2, c2, t2⟩⟩) rfl)
  have HV := Lib.hid (HV.out.grown (grown_set u6 ⟨b5, 2, none⟩ (.slice a2 t2.length c2)) (by show (w.heap.size + 1) ≠ b5; omega))
  have HQ := Lib.hid (HQ.out.grown (grown_set u6 ⟨b5, 2, none⟩ (.slice a2 t2.length c2)) (by show (w.heap.size + 2) ≠ b5; omega))
  have HB := Lib.hid (below_gr HB.out (grown_set u6 ⟨b5, 2, none⟩ (.slice a2 t2.length c2)) (by show w.heap.size ≤ b5; omega))
  have HR2 := Lib.hid (HR2.out.row (grown_set u6 ⟨b5, 2, none⟩ (.slice a2 t2.length c2)) (by show b5 < w.heap.size + 3 ∨ b5 = b5; omega))
  have HRo := HR
  have HR := Lib.hid (HR.out.sets (rcC r2) rfl)
  have HX := Lib.hid (HX.out.grown (grown_vs (w := (u6.setCell ⟨b5, 2, none⟩ (.slice a2 t2.length c2))) (b := w.heap.size) (rcC r2)) (by show b5 ≠ w.heap.size; omega))
  have HV := Lib.hid (HV.out.grown (grown_vs (w := (u6.setCell ⟨b5, 2, none⟩ (.slice a2 t2.length c2))) (b := w.heap.size) (rcC r2)) (by show (w.heap.size + 1) ≠ w.heap.size; omega))
  have HQ := Lib.hid (HQ.out.grown (grown_vs (w := (u6.setCell ⟨b5, 2, none⟩ (.slice a2 t2.length c2))) (b := w.heap.size) (rcC r2)) (by show (w.heap.size + 2) ≠ w.heap.size; omega))
  have HB := Lib.hid (below_gr HB.out (grown_vs (w := (u6.setCell ⟨b5, 2, none⟩ (.slice a2 t2.length c2))) (b := w.heap.size) (rcC r2)) (by show w.heap.size ≤ w.heap.size; omega))
  have HR2 := Lib.hid (HR2.out.row (grown_vs (w := (u6.setCell ⟨b5, 2, none⟩ (.slice a2 t2.length c2))) (b := w.heap.size) (rcC r2)) (by show w.heap.size < w.heap.size + 3 ∨ w.heap.size = b5; omega))
  go_upto_region 5 with (first | (refine wpList_store_mid rfl 63 _ _ rfl w.heap.size 0 (rcC r2).toArray rfl rfl ?_ (infoRc r2) (rcC_one r2) ?_; · exact HRo.out.there (n := 2) rfl))
  try simp only [List.toList_toArray]
  clear HRo cx fx lx
  generalize ((u6.setCell ⟨b5, 2, none⟩ (.slice a2 t2.length c2)).setCells w.heap.size 0 (rcC r2)) = u7 at HR HX HV HQ HB HR2 ⊢
  go_wp2_with fail
  refine wp_region_noPanic ?_
  have HR := Lib.hid (HR.out.below (Below.refl _ _).drew)
  have HX := Lib.hid (HX.out.below (Below.refl _ _).drew)
  have HV := Lib.hid (HV.out.below (Below.refl _ _).drew)
  have HQ := Lib.hid (HQ.out.below (Below.refl _ _).drew)
  have HB := Lib.hid (HB.out.drew)
  have HR2 := Lib.hid (HR2.out.below (Below.refl _ _).drew)
  generalize hv : u7.drew = v at HR HX HV HQ HB HR2
  refine wp_region_held_drew (S := fun W => W.rangeAt b5 0 (deC ⟨n0, t1, ⟨a2, c2, t2⟩⟩) ∧ W.rangeAt w.heap.size 0 (rcC r2)) (by kernel_rfl) (by rw [hv]; exact ⟨HX.out.range, HR.out.range⟩) (fun hHeld => ?_)
  rw [hv] at hHeld ⊢
  clear hv
  refine wpAnyH_take (i := 0) (oi := _) rfl (by kernel_rfl) (by kernel_rfl) (by kernel_rfl) (fun _ _ _ h => h) (yieldsIf_load_mid (by rfl) 78 _ (by rfl) _ 0 (by rfl) (deC ⟨n0, t1, ⟨a2, c2, t2⟩⟩) _ (fun _ h => h.1) Tryz.underlying78 rfl (infoDen ⟨n0, t1, ⟨a2, c2, t2⟩⟩)) (by assumption) ?_
  try simp only [Act.put, List.setIfInBounds_toArray, List.set_cons_zero, List.set_cons_succ, List.getElem_toArray, List.getElem_cons_zero]
  refine wpAnyH_take (i := 1) (oi := _) rfl (by kernel_rfl) (by kernel_rfl) (by kernel_rfl) (fun _ _ _ h => h) (yieldsIf_load_mid (by rfl) 63 _ (by rfl) _ 0 (by rfl) (rcC r2) _ (fun _ h => h.2) Tryz.underlying63 rfl (infoRc r2)) (by assumption) ?_
  try simp only [Act.put, List.setIfInBounds_toArray, List.set_cons_zero, List.set_cons_succ, List.getElem_toArray, List.getElem_cons_succ, List.getElem_cons_zero]
  refine wpAnyH_ready (rs := [2]) (by kernel_rfl) (by simp) ?_
  refine AllReadyH.cons (o := _) rfl (fun K hK => ?_) AllReadyH.nil
  rw [if_pos (by rfl)]
  refine wp_store_mid 78 _ _ rfl (w.heap.size + 1) 0 (deC ⟨n0, t1, ⟨a2, c2, t2⟩⟩).toArray rfl rfl (HV.out.there rfl) (infoDen ⟨n0, t1, ⟨a2, c2, t2⟩⟩) (deC_one' ⟨n0, t1, ⟨a2, c2, t2⟩⟩) ?_
  try simp only []
  have HR := Lib.hid (HR.out.grown (grown_vs (w := v) (b := (w.heap.size + 1)) (deC ⟨n0, t1, ⟨a2, c2, t2⟩⟩)) (by show w.heap.size ≠ (w.heap.size + 1); omega))
  have HX := Lib.hid (HX.out.grown (grown_vs (w := v) (b := (w.heap.size + 1)) (deC ⟨n0, t1, ⟨a2, c2, t2⟩⟩)) (by show b5 ≠ (w.heap.size + 1); omega))
  have HV := Lib.hid (HV.out.sets (deC ⟨n0, t1, ⟨a2, c2, t2⟩⟩) rfl)
  have HQ := Lib.hid (HQ.out.grown (grown_vs (w := v) (b := (w.heap.size + 1)) (deC ⟨n0, t1, ⟨a2, c2, t2⟩⟩)) (by show (w.heap.size + 2) ≠ (w.heap.size + 1); omega))
  have HB := Lib.hid (below_gr HB.out (grown_vs (w := v) (b := (w.heap.size + 1)) (deC ⟨n0, t1, ⟨a2, c2, t2⟩⟩)) (by show w.heap.size ≤ (w.heap.size + 1); omega))
  have HR2 := Lib.hid (HR2.out.row (grown_vs (w := v) (b := (w.heap.size + 1)) (deC ⟨n0, t1, ⟨a2, c2, t2⟩⟩)) (by show (w.heap.size + 1) < w.heap.size + 3 ∨ (w.heap.size + 1) = b5; omega))
  generalize v.setCells (w.heap.size + 1) 0 (deC ⟨n0, t1, ⟨a2, c2, t2⟩⟩) = v5 at HR HX HV HQ HB HR2 ⊢
  refine hK.out _ _ ⟨HX.out.range, HR.out.range⟩ (fun hHeld => ?_)
  clear hK K
  try simp only [Act.put, List.getElem_toArray, List.getElem_cons_succ, List.getElem_cons_zero]
  refine wpAnyH_ready (rs := [3]) (by kernel_rfl) (by simp) ?_
  refine AllReadyH.cons (o := _) rfl (fun K hK => ?_) AllReadyH.nil
  rw [if_pos (by rfl)]
  refine wp_store_mid 63 _ _ rfl (w.heap.size + 2) 0 (rcC r2).toArray rfl rfl (HQ.out.there (n := 2) rfl) (infoRc r2) (rcC_one r2) ?_
  try simp only []
  have HR := Lib.hid (HR.out.grown (grown_vs (w := v5) (b := (w.heap.size + 2)) (rcC r2)) (by show w.heap.size ≠ (w.heap.size + 2); omega))
  have HX := Lib.hid (HX.out.grown (grown_vs (w := v5) (b := (w.heap.size + 2)) (rcC r2)) (by show b5 ≠ (w.heap.size + 2); omega))
  have HV := Lib.hid (HV.out.grown (grown_vs (w := v5) (b := (w.heap.size + 2)) (rcC r2)) (by show (w.heap.size + 1) ≠ (w.heap.size + 2); omega))
  have HQ := Lib.hid (HQ.out.sets (rcC r2) rfl)
  have HB := Lib.hid (below_gr HB.out (grown_vs (w := v5) (b := (w.heap.size + 2)) (rcC r2)) (by show w.heap.size ≤ (w.heap.size + 2); omega))
  have HR2 := Lib.hid (HR2.out.row (grown_vs (w := v5) (b := (w.heap.size + 2)) (rcC r2)) (by show (w.heap.size + 2) < w.heap.size + 3 ∨ (w.heap.size + 2) = b5; omega))
  generalize v5.setCells (w.heap.size + 2) 0 (rcC r2) = v6 at HR HX HV HQ HB HR2 ⊢
  refine hK.out _ _ ⟨HX.out.range, HR.out.range⟩ (fun hHeld => ?_)
  clear hK K
  try simp only [Act.put, List.getElem_toArray, List.getElem_cons_succ, List.getElem_cons_zero]
  refine wpAnyH_done (by kernel_rfl) ?_ _
  refine NoPanic.normal ?_
  go_wp2_with fail
  refine bodyPost_ret (v := .tuple #[.agg (deC ⟨n0, t1, ⟨a2, c2, t2⟩⟩).toArray, .agg (rcC r2).toArray]) ?_ rfl (ret_rx (x := ⟨n0, t1, ⟨a2, c2, t2⟩⟩) HSpec.out rfl ?_ ?_ HB.out)
  · exact results_mid2 Tryz.results40 _ _ ((w.heap.size + 1)) ((w.heap.size + 2)) (deC ⟨n0, t1, ⟨a2, c2, t2⟩⟩) (rcC r2) _ _ rfl rfl HV.out.range HQ.out.range Tryz.underlying78 rfl (infoDen ⟨n0, t1, ⟨a2, c2, t2⟩⟩) Tryz.underlying63 rfl (infoRc r2)
  · show De.mk n0 t1 (Sl.er ⟨a2, c2, t2⟩) = _
    rfl
  · exact fun W hW => ⟨HN64.out n0 (by simp), (HR2.out.stays.low (by omega) W hW).1, (HR2.out.stays.low (by omega) W hW).2⟩
end Go.Proofs.YtoehakekjlebdaaGreatDoor
/- The reference's readStatus. -/
namespace Go.Proofs.YtoehakekjlebdaaGreatDoor
open Go.RowKit

set_option maxRecDepth 100000 in
set_option maxHeartbeats 2000000 in
theorem refReadStatus_any (r : Rc) (w : World) (hl : r.s.length ≤ 268435456) :
    Calls Tryz.prog 31 #[.agg #[.string ⟨r.s.toArray⟩, .bool r.ok]] w (RetRX stC St.er St.ok (rkSt r) w) := by
  have HTn := rkInts_ok 4 r
  obtain ⟨n0, n1, n2, n3, hn⟩ := four_of _ HTn.1
  obtain ⟨r0, hr0⟩ : ∃ r0, r0 = (rkInts 4 r).2 := ⟨_, rfl⟩
  have HT0 : Hid (rkInts 4 r = ([n0, n1, n2, n3], r0)) := Lib.hid (by rw [hr0, ← hn])
  have HN64 : Hid (∀ x ∈ [n0, n1, n2, n3], I64 x) := Lib.hid (by rw [← hn]; exact HTn.2)
  have HL0 : Hid (r0.s.length ≤ 268435456) := Lib.hid (by rw [hr0]; exact Nat.le_trans (rkInts_len 4 r) hl)
  clear HTn hn hr0
  obtain ⟨t1, r1, ht1⟩ : ∃ t s', rkText r0 = (t, s') := ⟨_, _, rfl⟩
  have HL1 : Hid (r1.s.length ≤ 268435456) := Lib.hid (by have h9 := rkText_len2 r0; rw [ht1] at h9; exact Nat.le_trans h9 HL0.out)
  have HTL1 : Hid (t1.length ≤ 268435456) := Lib.hid (by have h9 := (rkText_len r0).1; rw [ht1] at h9; exact Nat.le_trans h9 HL0.out)
  have HT1 := Lib.hid ht1
  clear ht1
  obtain ⟨t2, r2, ht2⟩ : ∃ t s', rkSgs r1 = (t, s') := ⟨_, _, rfl⟩
  have HL2 : Hid (r2.s.length ≤ 268435456) := Lib.hid (by have h9 := rkSgs_len r1; rw [ht2] at h9; exact Nat.le_trans h9 HL1.out)
  have HT2 := Lib.hid ht2
  clear ht2
  obtain ⟨t3, r3, ht3⟩ : ∃ t s', rkOne r2 = (t, s') := ⟨_, _, rfl⟩
  have HL3 : Hid (r3.s.length ≤ 268435456) := Lib.hid (by have h9 := rkOne_len r2; rw [ht3] at h9; exact Nat.le_trans h9 HL2.out)
  have HT3 := Lib.hid ht3
  clear ht3
  have HSpec : Hid (rkSt r = (⟨n0, n1, n2, n3, t1, Sl.of t2, t3⟩, r3)) := Lib.hid (by
    unfold rkSt rkThen rkRet
    simp only [HT0.out, HT1.out, HT2.out, HT3.out]
    rfl)
  obtain ⟨wa, hwa⟩ : ∃ wa, wa = ((w.alloc (.cells (rcC r).toArray 63)).alloc (.cells #[.int .i64 0, .int .i64 0, .int .i64 0, .int .i64 0, .string ⟨#[]⟩, .slice none 0 0, .int .i64 0, .int .i64 0, .int .i64 0, .int .i64 0, .string ⟨#[]⟩, .string ⟨#[]⟩] 26)).alloc (.cells (rcC Rc.fail).toArray 63) := ⟨_, rfl⟩
  have HR : Hid (Vr wa w.heap.size (rcC r)) := Lib.hid (by rw [hwa]; exact ((Vr.new w (rcC r) 63).below (below_new _ _)).below (below_new _ _))
  have HV : Hid (Vr wa (w.heap.size + 1) [.int .i64 0, .int .i64 0, .int .i64 0, .int .i64 0, .string ⟨#[]⟩, .slice none 0 0, .int .i64 0, .int .i64 0, .int .i64 0, .int .i64 0, .string ⟨#[]⟩, .string ⟨#[]⟩]) := Lib.hid (by rw [hwa]; exact (Vr.new' _ [.int .i64 0, .int .i64 0, .int .i64 0, .int .i64 0, .string ⟨#[]⟩, .slice none 0 0, .int .i64 0, .int .i64 0, .int .i64 0, .int .i64 0, .string ⟨#[]⟩, .string ⟨#[]⟩] 26 (by simp)).below (below_new _ _))
  have HQ : Hid (Vr wa (w.heap.size + 2) (rcC Rc.fail)) := Lib.hid (by rw [hwa]; exact Vr.new' _ (rcC Rc.fail) 63 (by simp))
  have HB : Hid (Below w.heap.size w wa) := Lib.hid (by rw [hwa]; exact bon (bon (below_new _ _) (below_new _ _)) (below_new _ _))
  have HZa : Hid (wa.heap.size = w.heap.size + 3) := Lib.hid (by rw [hwa]; simp)
  have hwa2 : ((w.alloc (.cells #[.string ⟨r.s.toArray⟩, .bool r.ok] 63)).alloc (.cells #[.int .i64 0, .int .i64 0, .int .i64 0, .int .i64 0, .string ⟨#[]⟩, .slice none 0 0, .int .i64 0, .int .i64 0, .int .i64 0, .int .i64 0, .string ⟨#[]⟩, .string ⟨#[]⟩] 26)).alloc (.cells #[.string ⟨#[]⟩, .bool false] 63) = wa := hwa.symm
  have HW := Lib.hid hwa2
  clear hwa hwa2
  go_enter Tryz.func31, Tryz.ntmps31
  go_upto_region 1 with fail
  rw [HW.out]
  go_wp2_with (refine wpList_load_mid rfl 63 _ rfl w.heap.size 0 rfl (rcC r) _ HR.out.range Tryz.underlying63 rfl (infoRc r) ?_)
  refine (refInts4_any r wa hl).mono ?_
  rintro e u1 ⟨A, c, he, hst0, hb⟩
  rw [HT0.out] at he hst0
  obtain rfl : e = .returned (.tuple #[.slice A 4 c, .agg (rcC r0).toArray]) := he
  rw [HZa.out] at hst0
  have h3 := hb.size
  rw [HZa.out] at h3
  have HR := Lib.hid (HR.out.below hb)
  have HV := Lib.hid (HV.out.below hb)
  have HQ := Lib.hid (HQ.out.below hb)
  have HB := Lib.hid (bon HB.out hb)
  have HRo := HR
  have HV := Lib.hid (HV.out.grown (grown_vs (b := w.heap.size) (rcC r0)) (by omega))
  have HQ := Lib.hid (HQ.out.grown (grown_vs (b := w.heap.size) (rcC r0)) (by omega))
  have HB := Lib.hid (below_gr HB.out (grown_vs (b := w.heap.size) (rcC r0)) (Nat.le_refl _))
  have HN := Lib.hid (hst0.on (keeps_grown (grown_vs (b := w.heap.size) (rcC r0)) (by omega)))
  have HR := Lib.hid (HR.out.sets (rcC r0) rfl)
  clear hb hst0
  go_upto_region 2 with (refine wpList_store_mid rfl 63 _ _ rfl w.heap.size 0 (rcC r0).toArray rfl rfl ?_ (infoRc r0) (rcC_one r0) ?_; · exact HRo.out.there (n := 2) rfl)
  try simp only [List.toList_toArray]
  clear HRo
  generalize u1.setCells w.heap.size 0 (rcC r0) = u2 at HR HV HQ HB HN ⊢
  have h5 : w.heap.size + 2 < u2.heap.size := HQ.out.lt
  go_wp2_with fail
  refine wp_region_noPanic ?_
  have HR := Lib.hid (HR.out.below (Below.refl _ _).drew)
  have HV := Lib.hid (HV.out.below (Below.refl _ _).drew)
  have HQ := Lib.hid (HQ.out.below (Below.refl _ _).drew)
  have HB := Lib.hid (HB.out.drew)
  have HN := Lib.hid (HN.out.on (keeps_below _ (Below.refl _ _).drew))
  generalize hv : u2.drew = v at HR HV HQ HB HN
  obtain ⟨b, off, hA, hbl, hcc⟩ := ints_cells HN.out.out (by simp)
  subst hA
  have HCW : Hid (∀ W, Keeps (w.heap.size + 3) v W → W.cell? ⟨b, off, none⟩ = some (.int .i64 n0) ∧ W.cell? ⟨b, off + 1, none⟩ = some (.int .i64 n1) ∧ W.cell? ⟨b, off + 2, none⟩ = some (.int .i64 n2) ∧ W.cell? ⟨b, off + 3, none⟩ = some (.int .i64 n3)) := Lib.hid (fun W hW => by
    obtain ⟨b2, o2, hA2, _, hc2⟩ := ints_cells (HN.out W hW) (by simp)
    simp only [Option.some.injEq, Addr.mk.injEq] at hA2
    obtain ⟨rfl, rfl, _⟩ := hA2
    exact ⟨hc2 0 _ rfl, hc2 1 _ rfl, hc2 2 _ rfl, hc2 3 _ rfl⟩)
  have hC := HCW.out v (Keeps.refl _ _)
  clear hcc hbl HN
  refine wp_region_held_drew (S := fun W => W.cell? ⟨b, off, none⟩ = some (.int .i64 n0) ∧ W.cell? ⟨b, off + 1, none⟩ = some (.int .i64 n1) ∧ W.cell? ⟨b, off + 2, none⟩ = some (.int .i64 n2) ∧ W.cell? ⟨b, off + 3, none⟩ = some (.int .i64 n3)) (by kernel_rfl) (by rw [hv]; exact hC) (fun hHeld => ?_)
  rw [hv] at hHeld ⊢
  clear hv h5
  have h5 : w.heap.size + 2 < v.heap.size := HQ.out.lt
  refine wpAnyH_take (i := 0) (oi := _) (v := ?_) rfl (by kernel_rfl) (by kernel_rfl) (by kernel_rfl) (fun _ _ _ h => h) (Or.inl ⟨by rfl, ?_⟩) (by assumption) ?_
  rotate_left
  · intro W hSw; (try dsimp only at hSw); go_simp; try with_reducible rfl
  try simp only [Act.put, List.setIfInBounds_toArray, List.set_cons_zero, List.set_cons_succ, List.getElem_toArray, List.getElem_cons_zero]
  refine wpAnyH_take (i := 1) (oi := _) (v := ?_) rfl (by kernel_rfl) (by kernel_rfl) (by kernel_rfl) (fun _ _ _ h => h) (Or.inl ⟨by rfl, ?_⟩) (by assumption) ?_
  rotate_left
  · intro W hSw; (try dsimp only at hSw); go_simp; try with_reducible rfl
  try simp only [Act.put, List.setIfInBounds_toArray, List.set_cons_zero, List.set_cons_succ, List.getElem_toArray, List.getElem_cons_succ, List.getElem_cons_zero]
  refine wpAnyH_take (i := 2) (oi := _) (v := ?_) rfl (by kernel_rfl) (by kernel_rfl) (by kernel_rfl) (fun _ _ _ h => h) (Or.inl ⟨by rfl, ?_⟩) (by assumption) ?_
  rotate_left
  · intro W hSw; (try dsimp only at hSw); go_simp; try with_reducible rfl
  try simp only [Act.put, List.setIfInBounds_toArray, List.set_cons_zero, List.set_cons_succ, List.getElem_toArray, List.getElem_cons_succ, List.getElem_cons_zero]
  refine wpAnyH_take (i := 3) (oi := _) (v := ?_) rfl (by kernel_rfl) (by kernel_rfl) (by kernel_rfl) (fun _ _ _ h => h) (Or.inl ⟨by rfl, ?_⟩) (by assumption) ?_
  rotate_left
  · intro W hSw; (try dsimp only at hSw); go_simp; try with_reducible rfl
  try simp only [Act.put, List.setIfInBounds_toArray, List.set_cons_zero, List.set_cons_succ, List.getElem_toArray, List.getElem_cons_succ, List.getElem_cons_zero]
  refine wpAnyH_take (i := 4) (oi := _) (v := ?_) rfl (by kernel_rfl) (by kernel_rfl) (by kernel_rfl) (fun _ _ _ h => h) (Or.inl ⟨by rfl, ?_⟩) (by assumption) ?_
  rotate_left
  · intro W hSw; (try dsimp only at hSw); go_simp; try with_reducible rfl
  try simp only [Act.put, List.setIfInBounds_toArray, List.set_cons_zero, List.set_cons_succ, List.getElem_toArray, List.getElem_cons_succ, List.getElem_cons_zero]
  refine wpAnyH_take (i := 5) (oi := _) (v := ?_) rfl (by kernel_rfl) (by kernel_rfl) (by kernel_rfl) (fun _ _ _ h => h) (Or.inl ⟨by rfl, ?_⟩) (by assumption) ?_
  rotate_left
  · intro W hSw; (try dsimp only at hSw); go_simp; try with_reducible rfl
  try simp only [Act.put, List.setIfInBounds_toArray, List.set_cons_zero, List.set_cons_succ, List.getElem_toArray, List.getElem_cons_succ, List.getElem_cons_zero]
  refine wpAnyH_take (i := 6) (oi := _) (v := ?_) rfl (by kernel_rfl) (by kernel_rfl) (by kernel_rfl) (fun _ _ _ h => h) (Or.inl ⟨by rfl, ?_⟩) (by assumption) ?_
  rotate_left
  · intro W hSw; (try dsimp only at hSw); go_simp; try with_reducible rfl
  try simp only [Act.put, List.setIfInBounds_toArray, List.set_cons_zero, List.set_cons_succ, List.getElem_toArray, List.getElem_cons_succ, List.getElem_cons_zero]
  refine wpAnyH_take (i := 7) (oi := _) (v := ?_) rfl (by kernel_rfl) (by kernel_rfl) (by kernel_rfl) (fun _ _ _ h => h) (Or.inl ⟨by rfl, ?_⟩) (by assumption) ?_
  rotate_left
  · intro W hSw; (try dsimp only at hSw); go_simp; try with_reducible rfl
  try simp only [Act.put, List.setIfInBounds_toArray, List.set_cons_zero, List.set_cons_succ, List.getElem_toArray, List.getElem_cons_succ, List.getElem_cons_zero]
  refine wpAnyH_take (i := 8) (oi := _) (v := ?_) rfl (by kernel_rfl) (by kernel_rfl) (by kernel_rfl) (fun _ _ _ h => h) (Or.inl ⟨by rfl, ?_⟩) (by assumption) ?_
  rotate_left
  · intro W hSw; (try dsimp only at hSw); go_simp; try with_reducible rfl
  try simp only [Act.put, List.setIfInBounds_toArray, List.set_cons_zero, List.set_cons_succ, List.getElem_toArray, List.getElem_cons_succ, List.getElem_cons_zero]
  refine wpAnyH_take (i := 9) (oi := _) (v := ?_) rfl (by kernel_rfl) (by kernel_rfl) (by kernel_rfl) (fun _ _ _ h => h) (Or.inl ⟨by rfl, ?_⟩) (by assumption) ?_
  rotate_left
  · intro W hSw; (try dsimp only at hSw); go_simp; try with_reducible rfl
  try simp only [Act.put, List.setIfInBounds_toArray, List.set_cons_zero, List.set_cons_succ, List.getElem_toArray, List.getElem_cons_succ, List.getElem_cons_zero]
  refine wpAnyH_take (i := 10) (oi := _) (v := ?_) rfl (by kernel_rfl) (by kernel_rfl) (by kernel_rfl) (fun _ _ _ h => h) (Or.inl ⟨by rfl, ?_⟩) (by assumption) ?_
  rotate_left
  · intro W hSw; (try dsimp only at hSw); go_simp; try with_reducible rfl
  try simp only [Act.put, List.setIfInBounds_toArray, List.set_cons_zero, List.set_cons_succ, List.getElem_toArray, List.getElem_cons_succ, List.getElem_cons_zero]
  refine wpAnyH_take (i := 11) (oi := _) (v := ?_) rfl (by kernel_rfl) (by kernel_rfl) (by kernel_rfl) (fun _ _ _ h => h) (Or.inl ⟨by rfl, ?_⟩) (by assumption) ?_
  rotate_left
  · intro W hSw; (try dsimp only at hSw); go_simp; try with_reducible rfl
  try simp only [Act.put, List.setIfInBounds_toArray, List.set_cons_zero, List.set_cons_succ, List.getElem_toArray, List.getElem_cons_succ, List.getElem_cons_zero]
  refine wpAnyH_take (i := 12) (oi := _) (v := ?_) rfl (by kernel_rfl) (by kernel_rfl) (by kernel_rfl) (fun _ _ _ h => h) (Or.inl ⟨by rfl, ?_⟩) (by assumption) ?_
  rotate_left
  · intro W hSw; (try dsimp only at hSw); go_simp; try with_reducible rfl
  try simp only [Act.put, List.setIfInBounds_toArray, List.set_cons_zero, List.set_cons_succ, List.getElem_toArray, List.getElem_cons_succ, List.getElem_cons_zero]
  refine wpAnyH_ready (rs := [13]) (by kernel_rfl) (by simp) ?_
  refine AllReadyH.cons (o := _) rfl (fun K hK => ?_) AllReadyH.nil
  go_simp
  have HX : Hid (Vr (v.alloc (.cells #[.int .i64 0, .int .i64 0, .int .i64 0, .int .i64 0, .string ⟨#[]⟩, .slice none 0 0, .int .i64 0, .int .i64 0, .int .i64 0, .int .i64 0, .string ⟨#[]⟩, .string ⟨#[]⟩] 26)) v.heap.size [.int .i64 0, .int .i64 0, .int .i64 0, .int .i64 0, .string ⟨#[]⟩, .slice none 0 0, .int .i64 0, .int .i64 0, .int .i64 0, .int .i64 0, .string ⟨#[]⟩, .string ⟨#[]⟩]) := Lib.hid (Vr.new _ _ _)
  have HR := Lib.hid (HR.out.below (below_new v (.cells #[.int .i64 0, .int .i64 0, .int .i64 0, .int .i64 0, .string ⟨#[]⟩, .slice none 0 0, .int .i64 0, .int .i64 0, .int .i64 0, .int .i64 0, .string ⟨#[]⟩, .string ⟨#[]⟩] 26)))
  have HV := Lib.hid (HV.out.below (below_new v (.cells #[.int .i64 0, .int .i64 0, .int .i64 0, .int .i64 0, .string ⟨#[]⟩, .slice none 0 0, .int .i64 0, .int .i64 0, .int .i64 0, .int .i64 0, .string ⟨#[]⟩, .string ⟨#[]⟩] 26)))
  have HQ := Lib.hid (HQ.out.below (below_new v (.cells #[.int .i64 0, .int .i64 0, .int .i64 0, .int .i64 0, .string ⟨#[]⟩, .slice none 0 0, .int .i64 0, .int .i64 0, .int .i64 0, .int .i64 0, .string ⟨#[]⟩, .string ⟨#[]⟩] 26)))
  have HB := Lib.hid (bon HB.out (below_new v (.cells #[.int .i64 0, .int .i64 0, .int .i64 0, .int .i64 0, .string ⟨#[]⟩, .slice none 0 0, .int .i64 0, .int .i64 0, .int .i64 0, .int .i64 0, .string ⟨#[]⟩, .string ⟨#[]⟩] 26)))
  have HK := Lib.hid (keeps_below (w.heap.size + 3) (below_new v (.cells #[.int .i64 0, .int .i64 0, .int .i64 0, .int .i64 0, .string ⟨#[]⟩, .slice none 0 0, .int .i64 0, .int .i64 0, .int .i64 0, .int .i64 0, .string ⟨#[]⟩, .string ⟨#[]⟩] 26)))
  have hb5 : v.heap.size ≤ v.heap.size := Nat.le_refl _
  generalize v.alloc (.cells #[.int .i64 0, .int .i64 0, .int .i64 0, .int .i64 0, .string ⟨#[]⟩, .slice none 0 0, .int .i64 0, .int .i64 0, .int .i64 0, .int .i64 0, .string ⟨#[]⟩, .string ⟨#[]⟩] 26) = v2 at HX HR HV HQ HB HK ⊢
  have hC2 := HCW.out v2 HK.out
  generalize hq5 : v.heap.size = b5 at HX h5 ⊢
  have hb5 : v.heap.size ≤ b5 := Nat.le_of_eq hq5
  clear hq5
  refine hK.out _ _ hC2 (fun hHeld => ?_)
  clear hK K
  try simp only [Act.put, List.setIfInBounds_toArray, List.set_cons_zero, List.set_cons_succ, List.getElem_toArray, List.getElem_cons_succ, List.getElem_cons_zero]
  refine wpAnyH_ready (rs := [14]) (by kernel_rfl) (by simp) ?_
  refine AllReadyH.cons (o := _) rfl (fun K hK => ?_) AllReadyH.nil
  rw [if_pos (by rfl)]
  refine wp_store_mid 26 _ _ rfl b5 0 (stC ⟨n0, n1, n2, n3, [], Sl.nil, sg0⟩).toArray rfl rfl (HX.out.there rfl) (infoStn ⟨n0, n1, n2, n3, [], Sl.nil, sg0⟩) (stC_one' ⟨n0, n1, n2, n3, [], Sl.nil, sg0⟩) ?_
  try simp only []
  have HR := Lib.hid (HR.out.grown (grown_vs (b := b5) (stC ⟨n0, n1, n2, n3, [], Sl.nil, sg0⟩)) (by omega))
  have HV := Lib.hid (HV.out.grown (grown_vs (b := b5) (stC ⟨n0, n1, n2, n3, [], Sl.nil, sg0⟩)) (by omega))
  have HQ := Lib.hid (HQ.out.grown (grown_vs (b := b5) (stC ⟨n0, n1, n2, n3, [], Sl.nil, sg0⟩)) (by omega))
  have HX := Lib.hid (HX.out.sets (stC ⟨n0, n1, n2, n3, [], Sl.nil, sg0⟩) rfl)
  have HB := Lib.hid (below_gr HB.out (grown_vs (b := b5) (stC ⟨n0, n1, n2, n3, [], Sl.nil, sg0⟩)) (by omega))
  have hC3 := HCW.out _ (keeps_row2 HK.out (grown_vs (b := b5) (stC ⟨n0, n1, n2, n3, [], Sl.nil, sg0⟩)) (Or.inr hb5))
  generalize v2.setCells b5 0 (stC ⟨n0, n1, n2, n3, [], Sl.nil, sg0⟩) = u3 at HR HV HQ HX HB hC3 ⊢
  refine hK.out _ _ hC3 (fun hHeld => ?_)
  clear hK K
  try simp only [Act.put, List.getElem_toArray, List.getElem_cons_succ, List.getElem_cons_zero]
  refine wpAnyH_done (by kernel_rfl) ?_ _
  refine NoPanic.normal ?_
  clear hC hC2 hC3 HK HCW hb5
  go_wp2_with (refine wpList_load_mid rfl 63 _ rfl w.heap.size 0 rfl (rcC r0) _ HR.out.range Tryz.underlying63 rfl (infoRc r0) ?_)
  refine (refText_any r0 _ HL0.out).mono ?_
  rintro e u4 ⟨he, hb⟩
  rw [HT1.out] at he
  obtain rfl : e = .returned (.tuple #[.string ⟨t1.toArray⟩, .agg (rcC r1).toArray]) := he
  have HR := Lib.hid (HR.out.below hb)
  have HX := Lib.hid (HX.out.below hb)
  have HV := Lib.hid (HV.out.below hb)
  have HQ := Lib.hid (HQ.out.below hb)
  have HB := Lib.hid (bon HB.out hb)
  clear hb
  have cx := HX.out.cells 4 _ rfl
  have fx := HX.out.free 4 (of_decide_eq_true rfl)
  have lx := HX.out.lt
  have HR := Lib.hid (HR.out.grown (grown_set u4 ⟨b5, 4, none⟩ (.string ⟨t1.toArray⟩)) (by show w.heap.size ≠ b5; omega))
  have HX := Lib.hid ((HX.out.set 4 (.string ⟨t1.toArray⟩)).eq (cs' := stC ⟨n0, n1, n2, n3, t1, Sl.nil, sg0⟩) rfl)
  have HV := Lib.hid (HV.out.grown (grown_set u4 ⟨b5, 4, none⟩ (.string ⟨t1.toArray⟩)) (by show (w.heap.size + 1) ≠ b5; omega))
  have HQ := Lib.hid (HQ.out.grown (grown_set u4 ⟨b5, 4, none⟩ (.string ⟨t1.toArray⟩)) (by show (w.heap.size + 2) ≠ b5; omega))
  have HB := Lib.hid (below_gr HB.out (grown_set u4 ⟨b5, 4, none⟩ (.string ⟨t1.toArray⟩)) (by show w.heap.size ≤ b5; omega))
  have HRo := HR
  have HR := Lib.hid (HR.out.sets (rcC r1) rfl)
  have HX := Lib.hid (HX.out.grown (grown_vs (w := (u4.setCell ⟨b5, 4, none⟩ (.string ⟨t1.toArray⟩))) (b := w.heap.size) (rcC r1)) (by show b5 ≠ w.heap.size; omega))
  have HV := Lib.hid (HV.out.grown (grown_vs (w := (u4.setCell ⟨b5, 4, none⟩ (.string ⟨t1.toArray⟩))) (b := w.heap.size) (rcC r1)) (by show (w.heap.size + 1) ≠ w.heap.size; omega))
  have HQ := Lib.hid (HQ.out.grown (grown_vs (w := (u4.setCell ⟨b5, 4, none⟩ (.string ⟨t1.toArray⟩))) (b := w.heap.size) (rcC r1)) (by show (w.heap.size + 2) ≠ w.heap.size; omega))
  have HB := Lib.hid (below_gr HB.out (grown_vs (w := (u4.setCell ⟨b5, 4, none⟩ (.string ⟨t1.toArray⟩))) (b := w.heap.size) (rcC r1)) (by show w.heap.size ≤ w.heap.size; omega))
  go_upto_region 4 with (first | (refine wpList_store_mid rfl 63 _ _ rfl w.heap.size 0 (rcC r1).toArray rfl rfl ?_ (infoRc r1) (rcC_one r1) ?_; · exact HRo.out.there (n := 2) rfl))
  try simp only [List.toList_toArray]
  clear HRo cx fx lx
  generalize ((u4.setCell ⟨b5, 4, none⟩ (.string ⟨t1.toArray⟩)).setCells w.heap.size 0 (rcC r1)) = u5 at HR HX HV HQ HB  ⊢
  go_wp2_with (refine wpList_load_mid rfl 63 _ rfl w.heap.size 0 rfl (rcC r1) _ HR.out.range Tryz.underlying63 rfl (infoRc r1) ?_)
  refine (refSigned_any r1 _ HL1.out).mono ?_
  rintro e u6 ⟨a2, c2, he, hst, hb⟩
  rw [HT2.out] at he hst
  obtain rfl : e = .returned (.tuple #[.slice a2 t2.length c2, .agg (rcC r2).toArray]) := he
  have HR2 := Lib.hid (held_new (a := w.heap.size + 3) (b4 := b5) hst (by have := HX.out.lt; have := HQ.out.lt; omega) (Or.inl HX.out.lt))
  have HR := Lib.hid (HR.out.below hb)
  have HX := Lib.hid (HX.out.below hb)
  have HV := Lib.hid (HV.out.below hb)
  have HQ := Lib.hid (HQ.out.below hb)
  have HB := Lib.hid (bon HB.out hb)
  clear hst
  clear hb
  have cx := HX.out.cells 5 _ rfl
  have fx := HX.out.free 5 (of_decide_eq_true rfl)
  have lx := HX.out.lt
  have HR := Lib.hid (HR.out.grown (grown_set u6 ⟨b5, 5, none⟩ (.slice a2 t2.length c2)) (by show w.heap.size ≠ b5; omega))
  have HX := Lib.hid ((HX.out.set 5 (.slice a2 t2.length c2)).eq (cs' := stC ⟨n0, n1, n2, n3, t1, ⟨a2, c2, t2⟩, sg0⟩) rfl)
  have HV := Lib.hid (HV.out.grown (grown_set u6 ⟨b5, 5, none⟩ (.slice a2 t2.length c2)) (by show (w.heap.size + 1) ≠ b5; omega))
  have HQ := Lib.hid (HQ.out.grown (grown_set u6 ⟨b5, 5, none⟩ (.slice a2 t2.length c2)) (by show (w.heap.size + 2) ≠ b5; omega))
  have HB := Lib.hid (below_gr HB.out (grown_set u6 ⟨b5, 5, none⟩ (.slice a2 t2.length c2)) (by show w.heap.size ≤ b5; omega))
  have HR2 := Lib.hid (HR2.out.row (grown_set u6 ⟨b5, 5, none⟩ (.slice a2 t2.length c2)) (by show b5 < w.heap.size + 3 ∨ b5 = b5; omega))
  have HRo := HR
  have HR := Lib.hid (HR.out.sets (rcC r2) rfl)
  have HX := Lib.hid (HX.out.grown (grown_vs (w := (u6.setCell ⟨b5, 5, none⟩ (.slice a2 t2.length c2))) (b := w.heap.size) (rcC r2)) (by show b5 ≠ w.heap.size; omega))
  have HV := Lib.hid (HV.out.grown (grown_vs (w := (u6.setCell ⟨b5, 5, none⟩ (.slice a2 t2.length c2))) (b := w.heap.size) (rcC r2)) (by show (w.heap.size + 1) ≠ w.heap.size; omega))
  have HQ := Lib.hid (HQ.out.grown (grown_vs (w := (u6.setCell ⟨b5, 5, none⟩ (.slice a2 t2.length c2))) (b := w.heap.size) (rcC r2)) (by show (w.heap.size + 2) ≠ w.heap.size; omega))
  have HB := Lib.hid (below_gr HB.out (grown_vs (w := (u6.setCell ⟨b5, 5, none⟩ (.slice a2 t2.length c2))) (b := w.heap.size) (rcC r2)) (by show w.heap.size ≤ w.heap.size; omega))
  have HR2 := Lib.hid (HR2.out.row (grown_vs (w := (u6.setCell ⟨b5, 5, none⟩ (.slice a2 t2.length c2))) (b := w.heap.size) (rcC r2)) (by show w.heap.size < w.heap.size + 3 ∨ w.heap.size = b5; omega))
  go_upto_region 5 with (first | (refine wpList_store_mid rfl 63 _ _ rfl w.heap.size 0 (rcC r2).toArray rfl rfl ?_ (infoRc r2) (rcC_one r2) ?_; · exact HRo.out.there (n := 2) rfl))
  try simp only [List.toList_toArray]
  clear HRo cx fx lx
  generalize ((u6.setCell ⟨b5, 5, none⟩ (.slice a2 t2.length c2)).setCells w.heap.size 0 (rcC r2)) = u7 at HR HX HV HQ HB HR2 ⊢
  go_wp2_with (refine wpList_load_mid rfl 63 _ rfl w.heap.size 0 rfl (rcC r2) _ HR.out.range Tryz.underlying63 rfl (infoRc r2) ?_)
  refine (refOne_any r2 _ HL2.out).mono ?_
  rintro e u8 ⟨x3, he, hx, hst, hb⟩
  rw [HT3.out] at he hx
  obtain rfl : e = .returned (.tuple #[.agg #[.int .i64 x3.server, .int .i64 x3.kind, .int .i64 x3.view, .int .i64 x3.slot, .string ⟨x3.digest.toArray⟩, .string ⟨x3.sig.toArray⟩], .agg (rcC r3).toArray]) := he
  have HX3 := Lib.hid hx
  clear hx
  have HR3 := Lib.hid (held_new (a := w.heap.size + 3) (b4 := b5) hst (by have := HX.out.lt; have := HQ.out.lt; omega) (Or.inl HX.out.lt))
  have HR := Lib.hid (HR.out.below hb)
  have HX := Lib.hid (HX.out.below hb)
  have HV := Lib.hid (HV.out.below hb)
  have HQ := Lib.hid (HQ.out.below hb)
  have HB := Lib.hid (bon HB.out hb)
  have HR2 := Lib.hid (HR2.out.below hb)
  clear hst
  clear hb
  have HXo := HX
  have HR := Lib.hid (HR.out.grown (grown_vs_at (w := u8) (b := b5) (o := 6) (sgC x3)) (by show w.heap.size ≠ b5; omega))
  have HX := Lib.hid ((HX.out.sets_at 6 (sgC x3) (of_decide_eq_true rfl)).eq (cs' := stC ⟨n0, n1, n2, n3, t1, ⟨a2, c2, t2⟩, x3⟩) rfl)
  have HV := Lib.hid (HV.out.grown (grown_vs_at (w := u8) (b := b5) (o := 6) (sgC x3)) (by show (w.heap.size + 1) ≠ b5; omega))
  have HQ := Lib.hid (HQ.out.grown (grown_vs_at (w := u8) (b := b5) (o := 6) (sgC x3)) (by show (w.heap.size + 2) ≠ b5; omega))
  have HB := Lib.hid (below_gr HB.out (grown_vs_at (w := u8) (b := b5) (o := 6) (sgC x3)) (by show w.heap.size ≤ b5; omega))
  have HR2 := Lib.hid (HR2.out.row (grown_vs_at (w := u8) (b := b5) (o := 6) (sgC x3)) (by show b5 < w.heap.size + 3 ∨ b5 = b5; omega))
  have HR3 := Lib.hid (HR3.out.row (grown_vs_at (w := u8) (b := b5) (o := 6) (sgC x3)) (by show b5 < w.heap.size + 3 ∨ b5 = b5; omega))
  have HRo := HR
  have HR := Lib.hid (HR.out.sets (rcC r3) rfl)
  have HX := Lib.hid (HX.out.grown (grown_vs (w := (u8.setCells b5 6 (sgC x3))) (b := w.heap.size) (rcC r3)) (by show b5 ≠ w.heap.size; omega))
  have HV := Lib.hid (HV.out.grown (grown_vs (w := (u8.setCells b5 6 (sgC x3))) (b := w.heap.size) (rcC r3)) (by show (w.heap.size + 1) ≠ w.heap.size; omega))
  have HQ := Lib.hid (HQ.out.grown (grown_vs (w := (u8.setCells b5 6 (sgC x3))) (b := w.heap.size) (rcC r3)) (by show (w.heap.size + 2) ≠ w.heap.size; omega))
  have HB := Lib.hid (below_gr HB.out (grown_vs (w := (u8.setCells b5 6 (sgC x3))) (b := w.heap.size) (rcC r3)) (by show w.heap.size ≤ w.heap.size; omega))
  have HR2 := Lib.hid (HR2.out.row (grown_vs (w := (u8.setCells b5 6 (sgC x3))) (b := w.heap.size) (rcC r3)) (by show w.heap.size < w.heap.size + 3 ∨ w.heap.size = b5; omega))
  have HR3 := Lib.hid (HR3.out.row (grown_vs (w := (u8.setCells b5 6 (sgC x3))) (b := w.heap.size) (rcC r3)) (by show w.heap.size < w.heap.size + 3 ∨ w.heap.size = b5; omega))
  go_upto_region 6 with (first | (refine wpList_store_mid rfl 24 _ _ rfl b5 6 (sgC x3).toArray rfl rfl ?_ (infoSgN x3) (sgC_one x3) ?_; · exact HXo.out.there_at 6 6 (of_decide_eq_true rfl)) | (refine wpList_store_mid rfl 63 _ _ rfl w.heap.size 0 (rcC r3).toArray rfl rfl ?_ (infoRc r3) (rcC_one r3) ?_; · exact HRo.out.there (n := 2) rfl))
  try simp only [List.toList_toArray]
  clear HRo HXo
  generalize ((u8.setCells b5 6 (sgC x3)).setCells w.heap.size 0 (rcC r3)) = u9 at HR HX HV HQ HB HR2 HR3 ⊢
  go_wp2_with fail
  refine wp_region_noPanic ?_
  have HR := Lib.hid (HR.out.below (Below.refl _ _).drew)
  have HX := Lib.hid (HX.out.below (Below.refl _ _).drew)
  have HV := Lib.hid (HV.out.below (Below.refl _ _).drew)
  have HQ := Lib.hid (HQ.out.below (Below.refl _ _).drew)
  have HB := Lib.hid (HB.out.drew)
  have HR2 := Lib.hid (HR2.out.below (Below.refl _ _).drew)
  have HR3 := Lib.hid (HR3.out.below (Below.refl _ _).drew)
  generalize hv : u9.drew = v at HR HX HV HQ HB HR2 HR3
  refine wp_region_held_drew (S := fun W => W.rangeAt b5 0 (stC ⟨n0, n1, n2, n3, t1, ⟨a2, c2, t2⟩, x3⟩) ∧ W.rangeAt w.heap.size 0 (rcC r3)) (by kernel_rfl) (by rw [hv]; exact ⟨HX.out.range, HR.out.range⟩) (fun hHeld => ?_)
  rw [hv] at hHeld ⊢
  clear hv
  refine wpAnyH_take (i := 0) (oi := _) rfl (by kernel_rfl) (by kernel_rfl) (by kernel_rfl) (fun _ _ _ h => h) (yieldsIf_load_mid (by rfl) 26 _ (by rfl) _ 0 (by rfl) (stC ⟨n0, n1, n2, n3, t1, ⟨a2, c2, t2⟩, x3⟩) _ (fun _ h => h.1) Tryz.underlying26 rfl (infoStn ⟨n0, n1, n2, n3, t1, ⟨a2, c2, t2⟩, x3⟩)) (by assumption) ?_
  try simp only [Act.put, List.setIfInBounds_toArray, List.set_cons_zero, List.set_cons_succ, List.getElem_toArray, List.getElem_cons_zero]
  refine wpAnyH_take (i := 1) (oi := _) rfl (by kernel_rfl) (by kernel_rfl) (by kernel_rfl) (fun _ _ _ h => h) (yieldsIf_load_mid (by rfl) 63 _ (by rfl) _ 0 (by rfl) (rcC r3) _ (fun _ h => h.2) Tryz.underlying63 rfl (infoRc r3)) (by assumption) ?_
  try simp only [Act.put, List.setIfInBounds_toArray, List.set_cons_zero, List.set_cons_succ, List.getElem_toArray, List.getElem_cons_succ, List.getElem_cons_zero]
  refine wpAnyH_ready (rs := [2]) (by kernel_rfl) (by simp) ?_
  refine AllReadyH.cons (o := _) rfl (fun K hK => ?_) AllReadyH.nil
  rw [if_pos (by rfl)]
  refine wp_store_mid 26 _ _ rfl (w.heap.size + 1) 0 (stC ⟨n0, n1, n2, n3, t1, ⟨a2, c2, t2⟩, x3⟩).toArray rfl rfl (HV.out.there rfl) (infoStn ⟨n0, n1, n2, n3, t1, ⟨a2, c2, t2⟩, x3⟩) (stC_one' ⟨n0, n1, n2, n3, t1, ⟨a2, c2, t2⟩, x3⟩) ?_
  try simp only []
  have HR := Lib.hid (HR.out.grown (grown_vs (w := v) (b := (w.heap.size + 1)) (stC ⟨n0, n1, n2, n3, t1, ⟨a2, c2, t2⟩, x3⟩)) (by show w.heap.size ≠ (w.heap.size + 1); omega))
  have HX := Lib.hid (HX.out.grown (grown_vs (w := v) (b := (w.heap.size + 1)) (stC ⟨n0, n1, n2, n3, t1, ⟨a2, c2, t2⟩, x3⟩)) (by show b5 ≠ (w.heap.size + 1); omega))
  have HV := Lib.hid (HV.out.sets (stC ⟨n0, n1, n2, n3, t1, ⟨a2, c2, t2⟩, x3⟩) rfl)
  have HQ := Lib.hid (HQ.out.grown (grown_vs (w := v) (b := (w.heap.size + 1)) (stC ⟨n0, n1, n2, n3, t1, ⟨a2, c2, t2⟩, x3⟩)) (by show (w.heap.size + 2) ≠ (w.heap.size + 1); omega))
  have HB := Lib.hid (below_gr HB.out (grown_vs (w := v) (b := (w.heap.size + 1)) (stC ⟨n0, n1, n2, n3, t1, ⟨a2, c2, t2⟩, x3⟩)) (by show w.heap.size ≤ (w.heap.size + 1); omega))
  have HR2 := Lib.hid (HR2.out.row (grown_vs (w := v) (b := (w.heap.size + 1)) (stC ⟨n0, n1, n2, n3, t1, ⟨a2, c2, t2⟩, x3⟩)) (by show (w.heap.size + 1) < w.heap.size + 3 ∨ (w.heap.size + 1) = b5; omega))
  have HR3 := Lib.hid (HR3.out.row (grown_vs (w := v) (b := (w.heap.size + 1)) (stC ⟨n0, n1, n2, n3, t1, ⟨a2, c2, t2⟩, x3⟩)) (by show (w.heap.size + 1) < w.heap.size + 3 ∨ (w.heap.size + 1) = b5; omega))
  generalize v.setCells (w.heap.size + 1) 0 (stC ⟨n0, n1, n2, n3, t1, ⟨a2, c2, t2⟩, x3⟩) = v5 at HR HX HV HQ HB HR2 HR3 ⊢
  refine hK.out _ _ ⟨HX.out.range, HR.out.range⟩ (fun hHeld => ?_)
  clear hK K
  try simp only [Act.put, List.getElem_toArray, List.getElem_cons_succ, List.getElem_cons_zero]
  refine wpAnyH_ready (rs := [3]) (by kernel_rfl) (by simp) ?_
  refine AllReadyH.cons (o := _) rfl (fun K hK => ?_) AllReadyH.nil
  rw [if_pos (by rfl)]
  refine wp_store_mid 63 _ _ rfl (w.heap.size + 2) 0 (rcC r3).toArray rfl rfl (HQ.out.there (n := 2) rfl) (infoRc r3) (rcC_one r3) ?_
  try simp only []
  have HR := Lib.hid (HR.out.grown (grown_vs (w := v5) (b := (w.heap.size + 2)) (rcC r3)) (by show w.heap.size ≠ (w.heap.size + 2); omega))
  have HX := Lib.hid (HX.out.grown (grown_vs (w := v5) (b := (w.heap.size + 2)) (rcC r3)) (by show b5 ≠ (w.heap.size + 2); omega))
  have HV := Lib.hid (HV.out.grown (grown_vs (w := v5) (b := (w.heap.size + 2)) (rcC r3)) (by show (w.heap.size + 1) ≠ (w.heap.size + 2); omega))
  have HQ := Lib.hid (HQ.out.sets (rcC r3) rfl)
  have HB := Lib.hid (below_gr HB.out (grown_vs (w := v5) (b := (w.heap.size + 2)) (rcC r3)) (by show w.heap.size ≤ (w.heap.size + 2); omega))
  have HR2 := Lib.hid (HR2.out.row (grown_vs (w := v5) (b := (w.heap.size + 2)) (rcC r3)) (by show (w.heap.size + 2) < w.heap.size + 3 ∨ (w.heap.size + 2) = b5; omega))
  have HR3 := Lib.hid (HR3.out.row (grown_vs (w := v5) (b := (w.heap.size + 2)) (rcC r3)) (by show (w.heap.size + 2) < w.heap.size + 3 ∨ (w.heap.size + 2) = b5; omega))
  generalize v5.setCells (w.heap.size + 2) 0 (rcC r3) = v6 at HR HX HV HQ HB HR2 HR3 ⊢
  refine hK.out _ _ ⟨HX.out.range, HR.out.range⟩ (fun hHeld => ?_)
  clear hK K
  try simp only [Act.put, List.getElem_toArray, List.getElem_cons_succ, List.getElem_cons_zero]
  refine wpAnyH_done (by kernel_rfl) ?_ _
  refine NoPanic.normal ?_
  go_wp2_with fail
  refine bodyPost_ret (v := .tuple #[.agg (stC ⟨n0, n1, n2, n3, t1, ⟨a2, c2, t2⟩, x3⟩).toArray, .agg (rcC r3).toArray]) ?_ rfl (ret_rx (x := ⟨n0, n1, n2, n3, t1, ⟨a2, c2, t2⟩, x3⟩) HSpec.out rfl ?_ ?_ HB.out)
  · exact results_mid2 Tryz.results31 _ _ ((w.heap.size + 1)) ((w.heap.size + 2)) (stC ⟨n0, n1, n2, n3, t1, ⟨a2, c2, t2⟩, x3⟩) (rcC r3) _ _ rfl rfl HV.out.range HQ.out.range Tryz.underlying26 rfl (infoStn ⟨n0, n1, n2, n3, t1, ⟨a2, c2, t2⟩, x3⟩) Tryz.underlying63 rfl (infoRc r3)
  · show St.mk n0 n1 n2 n3 t1 (Sl.er ⟨a2, c2, t2⟩) x3 = _
    have h3 : x3 = t3 := HX3.out
    rw [h3]; rfl
  · exact fun W hW => ⟨⟨HN64.out n0 (by simp), HN64.out n1 (by simp), HN64.out n2 (by simp), HN64.out n3 (by simp)⟩, (HR2.out.stays.low (by omega) W hW).1, (HR2.out.stays.low (by omega) W hW).2, HR3.out.stays.low (by omega) W hW⟩
end Go.Proofs.YtoehakekjlebdaaGreatDoor
/- The reference's EncodeStatus, DecodeStatus. -/
namespace Go.Proofs.YtoehakekjlebdaaGreatDoor
open Go.RowKit

set_option maxRecDepth 100000 in
set_option maxHeartbeats 2000000 in
theorem refEncodeStatus_any (s : St) (w : World) (hok : s.ok w) (hs : s.sz ≤ 16777216) : Calls Tryz.prog 10 #[.agg (stC s).toArray] w (RetStrErr (encS0 s) (vSt s) w) := by
  have HV := Lib.hid (Vr.new w (stC s) 26)
  have HB := Lib.hid (below_new w (.cells (stC s).toArray 26))
  have hz := sum_ge Sg.sz s.cert.l 7 Sg.sz_ge
  have hn : s.cert.l.length ≤ 1099511627776 := by unfold St.sz at hs; omega
  have HRg : Hid (∀ W, Below w.heap.size w W → Calls Tryz.prog 26 #[.agg (stC s).toArray] W (RetBool (stRange s) W)) := Lib.hid (fun W _ => statusRange_any s W)
  have HSh : Hid (∀ W, Below w.heap.size w W → Calls Tryz.prog 27 #[.agg (stC s).toArray] W (RetBool (stShort s) W)) := Lib.hid (fun W hb => statusShort_any s W (St.below hok hb).2.1 hn)
  have HC : Hid (∀ W, Below w.heap.size w W → Calls Tryz.prog 28 #[.agg (stC s).toArray] W (RetStr (encSt s) W)) := Lib.hid (fun W hb => refStatus_any s W (St.below hok hb) hs)
  clear hok hs hz hn
  go_enter Tryz.func10, Tryz.ntmps10
  go_wp2_with (refine wpList_load_mid rfl 26 _ rfl w.heap.size 0 rfl (stC s) _ HV.out.range Tryz.underlying26 rfl (infoStn s) ?_)
  refine (HRg.out _ HB.out).mono ?_
  rintro e w1 ⟨rfl, hb⟩
  have HV1 := Lib.hid (HV.out.below hb)
  have HB1 := Lib.hid (bon HB.out hb)
  clear hb
  cases h1 : stRange s with
  | false =>
    have H0 : Hid (vSt s = 7) := Lib.hid (by unfold vSt; rw [h1]; rfl)
    clear h1
    go_wp2_with fail
    go_ret2
    exact ret_se (by unfold encS0; rw [H0.out]; rfl) H0.out HB1.out
  | true =>
    have H1 := Lib.hid h1
    clear h1
    go_wp2_with (refine wpList_load_mid rfl 26 _ rfl w.heap.size 0 rfl (stC s) _ HV1.out.range Tryz.underlying26 rfl (infoStn s) ?_)
    refine (HSh.out _ HB1.out).mono ?_
    rintro e w2 ⟨rfl, hb⟩
    have HV2 := Lib.hid (HV1.out.below hb)
    have HB2 := Lib.hid (bon HB1.out hb)
    clear hb
    cases h2 : stShort s with
    | false =>
      have H0 : Hid (vSt s = 3) := Lib.hid (by unfold vSt; rw [H1.out, h2]; rfl)
      clear h2
      go_wp2_with fail
      go_ret2
      exact ret_se (by unfold encS0; rw [H0.out]; rfl) H0.out HB2.out
    | true =>
      have H0 : Hid (vSt s = 0) := Lib.hid (by unfold vSt; rw [H1.out, h2]; rfl)
      clear h2
      go_wp2_with (refine wpList_load_mid rfl 26 _ rfl w.heap.size 0 rfl (stC s) _ HV2.out.range Tryz.underlying26 rfl (infoStn s) ?_)
      refine (HC.out _ HB2.out).mono ?_
      rintro e w3 ⟨rfl, hb⟩
      have HB3 := Lib.hid (bon HB2.out hb)
      clear hb
      go_wp2_with fail
      go_ret2
      exact ret_se (by unfold encS0; rw [if_pos H0.out]) H0.out HB3.out
/-- as RetDecS, and what came back holds as long as the new blocks stand -/
def RetDecS2 (o : Option St) (w : World) (e : Ending) (w' : World) : Prop := Below w.heap.size w w' ∧ match o with
  | some m => ∃ x, x.er = m ∧ e = .returned (.tuple #[.agg (stC x).toArray, .int .i64 0]) ∧ Stays w.heap.size (x.ok) w'
  | none => e = .returned (.tuple #[.agg (stC st0).toArray, .int .i64 2])
theorem ret_decS2_none {o : Option St} {w w' : World} (h : o = none) (hb : Below w.heap.size w w') : RetDecS2 o w (.returned (.tuple #[.agg (stC st0).toArray, .int .i64 2])) w' := by
  subst h; exact ⟨hb, rfl⟩
theorem ret_decS2_some {o : Option St} {w w' : World} {x : St} (h : o = some x.er) (hb : Below w.heap.size w w') (hk : Stays w.heap.size (x.ok) w') : RetDecS2 o w (.returned (.tuple #[.agg (stC x).toArray, .int .i64 0])) w' := by
  subst h; exact ⟨hb, x, rfl, rfl, hk⟩
theorem decSt_ref (s : List UInt8) : decSt s = if (rkSt ⟨s, true⟩).2.ok = true ∧ (rkSt ⟨s, true⟩).2.s = [] ∧ stRange (rkSt ⟨s, true⟩).1 = true ∧ stShort (rkSt ⟨s, true⟩).1 = true then some (rkSt ⟨s, true⟩).1 else none := by
  unfold decSt whole
  cases h : rdSt s with
  | none =>
    have := al2_st.none s h
    rw [this]
    rfl
  | some y =>
    obtain ⟨x, q⟩ := y
    rw [al2_st.some s x q h]
    simp only
    by_cases hq : q = []
    · rw [if_pos hq]
      simp only
      unfold vSt
      cases stRange x <;> cases stShort x <;> simp [hq]
    · rw [if_neg hq, if_neg (fun hh => hq hh.2.1)]
set_option maxRecDepth 100000 in
set_option maxHeartbeats 2000000 in
theorem refDecodeStatus2_any (s : List UInt8) (w : World) (hs : s.length ≤ 16777216) : Calls Tryz.prog 13 #[.string ⟨s.toArray⟩] w (RetDecS2 (decSt s) w) := by
  have HV0 := Lib.hid (Vr.new w (stC st0) 26)
  have HB0 := Lib.hid (below_new w (.cells (stC st0).toArray 26))
  have HZ0 : Hid ((w.alloc (.cells (stC st0).toArray 26)).heap.size = w.heap.size + 1) := Lib.hid (by simp)
  have HP := Lib.hid (refReadStatus_any ⟨s, true⟩ (w.alloc (.cells (stC st0).toArray 26)) (Nat.le_trans hs (by decide)))
  have HD := Lib.hid (decSt_ref s)
  obtain ⟨p, hp⟩ : ∃ p, p = rkSt ⟨s, true⟩ := ⟨_, rfl⟩
  have hsz : p.2.ok = true → p.2.s = [] → p.1.sz ≤ 16777216 := by
    intro h1 h2
    cases h : rdSt s with
    | none => rw [hp, al2_st.none s h] at h1; cases h1
    | some y =>
      have h3 := al2_st.some s y.1 y.2 h
      rw [← hp] at h3
      rw [h3]
      have := rdSt_sz s y.1 y.2 h
      simp only
      omega
  have HSz := Lib.hid hsz
  rw [← hp] at HP HD
  obtain ⟨y, s2, b2⟩ := p
  simp only at HD HP HSz
  clear hp hsz
  go_enter Tryz.func13, Tryz.ntmps13
  go_wp2_with fail
  refine HP.out.mono ?_
  rintro e w2 ⟨x, he, hx, hst, hb⟩
  obtain rfl : e = .returned (.tuple #[.agg (stC x).toArray, .agg (rcC ⟨s2, b2⟩).toArray]) := he
  simp only at hx
  rw [HZ0.out] at hst
  have h2 := hb.size
  rw [HZ0.out] at h2
  obtain ⟨wb, hwb⟩ : ∃ wb, wb = (w2.alloc (.cells (stC st0).toArray 26)).alloc (.cells (rcC Rc.fail).toArray 63) := ⟨_, rfl⟩
  have HV : Hid (Vr wb w.heap.size (stC st0)) := Lib.hid (by rw [hwb]; exact ((HV0.out.below hb).below (below_new _ _)).below (below_new _ _))
  have HB : Hid (Below w.heap.size w wb) := Lib.hid (by rw [hwb]; exact bon (bon (bon HB0.out hb) (below_new _ _)) (below_new _ _))
  have HX : Hid (Vr wb w2.heap.size (stC st0)) := Lib.hid (by rw [hwb]; exact (Vr.new w2 (stC st0) 26).below (below_new _ _))
  have HR : Hid (Vr wb (w2.heap.size + 1) (rcC Rc.fail)) := Lib.hid (by rw [hwb]; exact Vr.new' _ (rcC Rc.fail) 63 (by simp))
  have HT : Hid (Held (w.heap.size + 1) w2.heap.size (x.ok) wb) := Lib.hid (by rw [hwb]; exact ((held_new hst (Nat.le_refl _) (Or.inr (Nat.le_refl _))).below (below_new _ _)).below (below_new _ _))
  have HT' : Hid (Stays (w.heap.size + 1) (x.ok) w2) := Lib.hid hst
  have HXe := Lib.hid hx
  have hwb2 : (w2.alloc (.cells (stC st0).toArray 26)).alloc (.cells (rcC Rc.fail).toArray 63) = wb := hwb.symm
  have HW := Lib.hid hwb2
  -- the worlds behind the two stores
  obtain ⟨wc, hwc⟩ : ∃ wc, wc = (wb.setCells w2.heap.size 0 (stC x)).setCells (w2.heap.size + 1) 0 (rcC ⟨s2, b2⟩) := ⟨_, rfl⟩
  have HVc : Hid (Vr wc w.heap.size (stC st0)) := Lib.hid (by rw [hwc]; exact (HV.out.grown (grown_vs (b := w2.heap.size) (stC x)) (by omega)).grown (grown_vs (b := w2.heap.size + 1) (rcC ⟨s2, b2⟩)) (by omega))
  have HBc : Hid (Below w.heap.size w wc) := Lib.hid (by rw [hwc]; exact below_gr (below_gr HB.out (grown_vs (b := w2.heap.size) (stC x)) (by omega)) (grown_vs (b := w2.heap.size + 1) (rcC ⟨s2, b2⟩)) (by omega))
  have HXc : Hid (Vr wc w2.heap.size (stC x)) := Lib.hid (by rw [hwc]; exact (HX.out.sets (stC x) rfl).grown (grown_vs (b := w2.heap.size + 1) (rcC ⟨s2, b2⟩)) (by omega))
  have HR1 : Hid (Vr (wb.setCells w2.heap.size 0 (stC x)) (w2.heap.size + 1) (rcC Rc.fail)) := Lib.hid (HR.out.grown (grown_vs (b := w2.heap.size) (stC x)) (by omega))
  have HRc : Hid (Vr wc (w2.heap.size + 1) (rcC ⟨s2, b2⟩)) := Lib.hid (by rw [hwc]; exact HR1.out.sets (rcC ⟨s2, b2⟩) rfl)
  have HTc : Hid (Held (w.heap.size + 1) w2.heap.size (x.ok) wc) := Lib.hid (by
    rw [hwc, hwb]
    obtain ⟨F, f1, f2⟩ : Held (w.heap.size + 1) w2.heap.size (x.ok) w2 := held_new HT'.out (Nat.le_refl _) (Or.inr (Nat.le_refl _))
    have g1 := below_new w2 (.cells (stC st0).toArray 26)
    have g2 := below_new (w2.alloc (.cells (stC st0).toArray 26)) (.cells (rcC Rc.fail).toArray 63)
    have hsz1 : (w2.alloc (.cells (stC st0).toArray 26)).heap.size = w2.heap.size + 1 := by simp
    have hsz2 : ((w2.alloc (.cells (stC st0).toArray 26)).alloc (.cells (rcC Rc.fail).toArray 63)).heap.size = w2.heap.size + 2 := by simp
    have g3 := grown_vs (w := (w2.alloc (.cells (stC st0).toArray 26)).alloc (.cells (rcC Rc.fail).toArray 63)) (b := w2.heap.size) (stC x)
    have g4 := grown_vs (w := ((w2.alloc (.cells (stC st0).toArray 26)).alloc (.cells (rcC Rc.fail).toArray 63)).setCells w2.heap.size 0 (stC x)) (b := w2.heap.size + 1) (rcC ⟨s2, b2⟩)
    have z3 := g3.size
    have z4 := g4.size
    refine ⟨F, f1.on (by omega) (fun k hk => ?_), fun k hk => ⟨(f2 k hk).1, by have := (f2 k hk).2.1; omega, (f2 k hk).2.2⟩⟩
    have h9 := (f2 k hk).2.1
    rw [g4.block k (by omega) (by simp; omega), g3.block k (by omega) (by simp; omega), g2.block k (by omega), g1.block k h9])
  have hwc2 : (wb.setCells w2.heap.size 0 (stC x)).setCells (w2.heap.size + 1) 0 (rcC ⟨s2, b2⟩) = wc := hwc.symm
  have HWc := Lib.hid hwc2
  clear hx hst hb hwb hwb2 hwc hwc2 HP HZ0
  go_upto_region 2 with (first
    | (refine wpList_store_mid rfl 26 _ _ rfl w2.heap.size 0 (stC x).toArray rfl rfl ?_ (infoStn x) (stC_one' x) ?_; · (have h9 := HX.out.there (n := 12) rfl; rw [← HW.out] at h9; exact h9))
    | (refine wpList_store_mid rfl 63 _ _ rfl (w2.heap.size + 1) 0 (rcC ⟨s2, b2⟩).toArray rfl rfl ?_ (infoRc ⟨s2, b2⟩) (rcC_one ⟨s2, b2⟩) ?_; · (have h9 := HR1.out.there (n := 2) rfl; rw [← HW.out] at h9; exact h9)))
  try simp only [List.toList_toArray]
  change Code.wp _ _ _ _ ((((w2.alloc (.cells (stC st0).toArray 26)).alloc (.cells (rcC Rc.fail).toArray 63)).setCells w2.heap.size 0 (stC x)).setCells (w2.heap.size + 1) 0 (rcC ⟨s2, b2⟩))
  rw [HW.out, HWc.out]
  have c0 := HRc.out.cells 0 _ rfl
  have c1 := HRc.out.cells 1 _ rfl
  have lc := HRc.out.lt
  simp only [] at c0 c1
  clear HX HR HR1 HV HB HT HW HWc
  cases b2 with
  | false =>
    have HY : Hid (decSt s = none) := Lib.hid (by rw [HD.out]; simp)
    go_wp2_with (refine wpList_store_mid rfl 26 _ _ rfl w.heap.size 0 (stC st0).toArray rfl rfl (HVc.out.there (n := 12) rfl) (infoStn st0) (stC_one' st0) ?_)
    refine bodyPost_ret (v := .tuple #[.agg (stC st0).toArray, .int .i64 2]) ?_ rfl (ret_decS2_none HY.out (below_gr HBc.out (grown_vs (b := w.heap.size) (stC st0)) (Nat.le_refl _)))
    exact results_mid_slot Tryz.results13 _ _ w.heap.size (stC st0) _ _ rfl rfl (HVc.out.sets (stC st0) rfl).range Tryz.underlying26 rfl (infoStn st0)
  | true =>
    cases s2 with
    | cons q0 qs =>
      have HY : Hid (decSt s = none) := Lib.hid (by rw [HD.out]; simp)
      go_wp2_with (refine wpList_store_mid rfl 26 _ _ rfl w.heap.size 0 (stC st0).toArray rfl rfl (HVc.out.there (n := 12) rfl) (infoStn st0) (stC_one' st0) ?_)
      refine bodyPost_ret (v := .tuple #[.agg (stC st0).toArray, .int .i64 2]) ?_ rfl (ret_decS2_none HY.out (below_gr HBc.out (grown_vs (b := w.heap.size) (stC st0)) (Nat.le_refl _)))
      exact results_mid_slot Tryz.results13 _ _ w.heap.size (stC st0) _ _ rfl rfl (HVc.out.sets (stC st0) rfl).range Tryz.underlying26 rfl (infoStn st0)
    | nil =>
      have hz := HSz.out rfl rfl
      have hxs : x.sz ≤ 16777216 := by have : x.er.sz = x.sz := rfl; rw [← this, HXe.out]; exact hz
      have hz2 := sum_ge Sg.sz x.cert.l 7 Sg.sz_ge
      have hn : x.cert.l.length ≤ 1099511627776 := by unfold St.sz at hxs; omega
      have HRg := Lib.hid (statusRange_any x wc)
      have HSh : Hid (∀ W, Below wc.heap.size wc W → Calls Tryz.prog 27 #[.agg (stC x).toArray] W (RetBool (stShort x) W)) := Lib.hid (fun W hb => statusShort_any x W ((HTc.out.below hb).stays.out).2.1 hn)
      have E1 : Hid (stRange y = stRange x) := Lib.hid (by rw [← HXe.out]; rfl)
      have E2 : Hid (stShort y = stShort x) := Lib.hid (by rw [← HXe.out]; rfl)
      clear hz hxs hz2 hn
      go_wp2_with (refine wpList_load_wanted (by rfl) 26 _ rfl w2.heap.size 0 rfl (stC x) _ HXc.out.range Tryz.underlying26 rfl (infoStn x) ?_)
      refine HRg.out.mono ?_
      rintro e w4 ⟨rfl, hb⟩
      have HV4 := Lib.hid (HVc.out.below hb)
      have HB4 := Lib.hid (bon HBc.out hb)
      have HX4 := Lib.hid (HXc.out.below hb)
      have HT4 := Lib.hid (HTc.out.below hb)
      have HSh4 := Lib.hid (HSh.out w4 hb)
      clear hb c0 c1 lc HRg
      cases h1 : stRange x with
      | false =>
        have HY : Hid (decSt s = none) := Lib.hid (by rw [HD.out, E1.out, h1]; simp)
        clear h1
        go_wp2_with (refine wpList_store_mid rfl 26 _ _ rfl w.heap.size 0 (stC st0).toArray rfl rfl (HV4.out.there (n := 12) rfl) (infoStn st0) (stC_one' st0) ?_)
        refine bodyPost_ret (v := .tuple #[.agg (stC st0).toArray, .int .i64 2]) ?_ rfl (ret_decS2_none HY.out (below_gr HB4.out (grown_vs (b := w.heap.size) (stC st0)) (Nat.le_refl _)))
        exact results_mid_slot Tryz.results13 _ _ w.heap.size (stC st0) _ _ rfl rfl (HV4.out.sets (stC st0) rfl).range Tryz.underlying26 rfl (infoStn st0)
      | true =>
        have H1 := Lib.hid h1
        clear h1
        go_wp2_with (refine wpList_load_wanted (by rfl) 26 _ rfl w2.heap.size 0 rfl (stC x) _ HX4.out.range Tryz.underlying26 rfl (infoStn x) ?_)
        refine HSh4.out.mono ?_
        rintro e w5 ⟨rfl, hb⟩
        have HV5 := Lib.hid (HV4.out.below hb)
        have HB5 := Lib.hid (bon HB4.out hb)
        have HX5 := Lib.hid (HX4.out.below hb)
        have HT5 := Lib.hid (HT4.out.below hb)
        clear hb
        cases h2 : stShort x with
        | false =>
          have HY : Hid (decSt s = none) := Lib.hid (by rw [HD.out, E2.out, h2]; simp)
          clear h2
          go_wp2_with (refine wpList_store_mid rfl 26 _ _ rfl w.heap.size 0 (stC st0).toArray rfl rfl (HV5.out.there (n := 12) rfl) (infoStn st0) (stC_one' st0) ?_)
          refine bodyPost_ret (v := .tuple #[.agg (stC st0).toArray, .int .i64 2]) ?_ rfl (ret_decS2_none HY.out (below_gr HB5.out (grown_vs (b := w.heap.size) (stC st0)) (Nat.le_refl _)))
          exact results_mid_slot Tryz.results13 _ _ w.heap.size (stC st0) _ _ rfl rfl (HV5.out.sets (stC st0) rfl).range Tryz.underlying26 rfl (infoStn st0)
        | true =>
          have HY : Hid (decSt s = some x.er) := Lib.hid (by rw [HD.out, E1.out, E2.out, H1.out, h2, HXe.out]; simp)
          clear h2
          go_wp2_with (first
            | (refine wpList_load_mid rfl 26 _ rfl w2.heap.size 0 rfl (stC x) _ HX5.out.range Tryz.underlying26 rfl (infoStn x) ?_)
            | (refine wpList_store_mid rfl 26 _ _ rfl w.heap.size 0 (stC x).toArray rfl rfl (HV5.out.there (n := 12) rfl) (infoStn x) (stC_one' x) ?_))
          refine bodyPost_ret (v := .tuple #[.agg (stC x).toArray, .int .i64 0]) ?_ rfl (ret_decS2_some HY.out (below_gr HB5.out (grown_vs (b := w.heap.size) (stC x)) (Nat.le_refl _)) ((HT5.out.row (grown_vs (b := w.heap.size) (stC x)) (Or.inl (by omega))).stays.low (by omega)))
          exact results_mid_slot Tryz.results13 _ _ w.heap.size (stC x) _ _ rfl rfl (HV5.out.sets (stC x) rfl).range Tryz.underlying26 rfl (infoStn x)
theorem refDecodeStatus_any (s : List UInt8) (w : World) (hs : s.length ≤ 16777216) : Calls Tryz.prog 13 #[.string ⟨s.toArray⟩] w (RetDecS (decSt s) w) := by
  refine (refDecodeStatus2_any s w hs).mono fun e w' h => ?_
  unfold RetDecS2 at h
  unfold RetDecS
  revert h
  cases decSt s with
  | none => exact fun h => h
  | some m =>
    rintro ⟨hb, x, h1, h2, h3⟩
    exact ⟨hb, x, h1, h2, h3.out⟩
end Go.Proofs.YtoehakekjlebdaaGreatDoor
/- EqualStatus, and the reference's Equal. -/
namespace Go.Proofs.YtoehakekjlebdaaGreatDoor
open Go.RowKit

/-- two texts are the same -/
def eqT (a b : List UInt8) : Bool := a == b
theorem eqT_self (a : List UInt8) : eqT a a = true := by simp [eqT]
set_option maxRecDepth 100000 in
set_option maxHeartbeats 2000000 in
theorem refEqualStatus_any (a b : St) (w : World) (ha : a.ok w) (hb : b.ok w) (sa : a.sz ≤ 16777216) (sb : b.sz ≤ 16777216) : Calls Tryz.prog 12 #[.agg (stC a).toArray, .agg (stC b).toArray] w (RetBool (eqT (encSt a) (encSt b)) w) := by
  obtain ⟨wq, hwq⟩ : ∃ wq, wq = (w.alloc (.cells (stC a).toArray 26)).alloc (.cells (stC b).toArray 26) := ⟨_, rfl⟩
  have HVa : Hid (Vr wq w.heap.size (stC a)) := Lib.hid (by rw [hwq]; exact (Vr.new w (stC a) 26).below (below_new _ _))
  have HVb : Hid (Vr wq (w.heap.size + 1) (stC b)) := Lib.hid (by rw [hwq]; exact Vr.new' _ (stC b) 26 (by simp))
  have HBq : Hid (Below w.heap.size w wq) := Lib.hid (by rw [hwq]; exact bon (below_new _ _) (below_new _ _))
  have HRa : Hid (∀ W, Below wq.heap.size wq W → W.rangeAt w.heap.size 0 (stC a)) := Lib.hid (fun W h => (HVa.out.below h).range)
  have HRb : Hid (∀ W, Below wq.heap.size wq W → W.rangeAt (w.heap.size + 1) 0 (stC b)) := Lib.hid (fun W h => (HVb.out.below h).range)
  have HLow : Hid (∀ W, Below wq.heap.size wq W → Below w.heap.size w W) := Lib.hid (fun W h => bon HBq.out h)
  have HCa : Hid (∀ W, Below wq.heap.size wq W → Calls Tryz.prog 28 #[.agg (stC a).toArray] W fun e W' => e = .returned (.string ⟨(encSt a).toArray⟩) ∧ Below wq.heap.size wq W') := Lib.hid (fun W h => (refStatus_any a W (St.below ha (HLow.out W h)) sa).mono fun e W' ⟨he, hw⟩ => ⟨he, bon h hw⟩)
  have HCb : Hid (∀ W, Below wq.heap.size wq W → Calls Tryz.prog 28 #[.agg (stC b).toArray] W fun e W' => e = .returned (.string ⟨(encSt b).toArray⟩) ∧ Below wq.heap.size wq W') := Lib.hid (fun W h => (refStatus_any b W (St.below hb (HLow.out W h)) sb).mono fun e W' ⟨he, hw⟩ => ⟨he, bon h hw⟩)
  have hwq2 : (w.alloc (.cells (stC a).toArray 26)).alloc (.cells (stC b).toArray 26) = wq := hwq.symm
  have HWq := Lib.hid hwq2
  clear ha hb sa sb hwq hwq2 HVa HVb HBq
  generalize encSt a = la at HCa ⊢
  generalize encSt b = lb at HCb ⊢
  go_enter Tryz.func12, Tryz.ntmps12
  go_upto_region 1 with fail
  rw [HWq.out]
  refine wp_region_noPanic ?_
  refine wp_region_held_drew (S := fun W => Below wq.heap.size wq W) (by kernel_rfl) ((Below.refl _ _).drew) (fun hHeld => ?_)
  refine wpAnyH_take (i := 0) (oi := _) rfl (by kernel_rfl) (by kernel_rfl) (by kernel_rfl) (fun _ _ _ h => h) (yieldsIf_load_mid (by rfl) 26 _ (by rfl) _ 0 (by rfl) (stC a) _ HRa.out Tryz.underlying26 rfl (infoStn a)) (by assumption) ?_
  try simp only [Act.put, List.setIfInBounds_toArray, List.set_cons_zero, List.set_cons_succ, List.getElem_toArray, List.getElem_cons_zero]
  refine wpAnyH_take (i := 2) (oi := _) rfl (by kernel_rfl) (by kernel_rfl) (by kernel_rfl) (fun _ _ _ h => h) (yieldsIf_load_mid (by rfl) 26 _ (by rfl) _ 0 (by rfl) (stC b) _ HRb.out Tryz.underlying26 rfl (infoStn b)) (by assumption) ?_
  try simp only [Act.put, List.setIfInBounds_toArray, List.set_cons_zero, List.set_cons_succ, List.getElem_toArray, List.getElem_cons_succ, List.getElem_cons_zero]
  refine wpAnyH_ready (rs := [1]) (by kernel_rfl) (by simp) ?_
  refine AllReadyH.cons (o := _) rfl (fun K hK => ?_) AllReadyH.nil
  go_simp
  go_at_call 28
  refine (HCa.out _ (by assumption)).mono ?_
  rintro e w4 ⟨rfl, bw4⟩
  go_wp2_with fail
  refine hK.out _ _ bw4 (fun hHeld => ?_)
  clear hK K
  try simp only [Act.put, List.setIfInBounds_toArray, List.set_cons_zero, List.set_cons_succ, List.getElem_toArray, List.getElem_cons_succ, List.getElem_cons_zero]
  refine wpAnyH_ready (rs := [3]) (by kernel_rfl) (by simp) ?_
  refine AllReadyH.cons (o := _) rfl (fun K hK => ?_) AllReadyH.nil
  go_simp
  go_at_call 28
  refine (HCb.out _ (by assumption)).mono ?_
  rintro e w5 ⟨rfl, bw5⟩
  go_wp2_with fail
  refine hK.out _ _ bw5 (fun hHeld => ?_)
  clear hK K
  try simp only [Act.put, List.setIfInBounds_toArray, List.set_cons_zero, List.set_cons_succ, List.getElem_toArray, List.getElem_cons_succ, List.getElem_cons_zero]
  refine wpAnyH_take (i := 4) (oi := _) (v := ?_) rfl (by kernel_rfl) (by kernel_rfl) (by kernel_rfl) (fun _ _ _ h => h) (Or.inl ⟨by rfl, ?_⟩) (by assumption) ?_
  rotate_left
  · intro W hSw; (try dsimp only at hSw); go_simp; try with_reducible rfl
  try simp only [Act.put, List.setIfInBounds_toArray, List.set_cons_zero, List.set_cons_succ, List.getElem_toArray, List.getElem_cons_succ, List.getElem_cons_zero]
  refine wpAnyH_ready (rs := [5]) (by kernel_rfl) (by simp) ?_
  refine AllReadyH.cons (o := _) rfl (fun K hK => ?_) AllReadyH.nil
  go_simp
  refine hK.out _ _ bw5 (fun hHeld => ?_)
  clear hK K
  try simp only [Act.put, List.setIfInBounds_toArray, List.set_cons_zero, List.set_cons_succ, List.getElem_toArray, List.getElem_cons_succ, List.getElem_cons_zero]
  refine wpAnyH_done (by kernel_rfl) ?_ _
  refine NoPanic.normal ?_
  go_wp2_with fail
  go_ret
  exact ret_bl rfl (HLow.out _ bw5)
set_option maxRecDepth 100000 in
set_option maxHeartbeats 2000000 in
theorem refEqualMs_any (a b : Ms) (w : World) (ha : a.ok w) (hb : b.ok w) (sa : a.sz ≤ 16777216) (sb : b.sz ≤ 16777216) : Calls Tryz.prog 17 #[.agg (msC a).toArray, .agg (msC b).toArray] w (RetBool (eqT (encMs a) (encMs b)) w) := by
  obtain ⟨wq, hwq⟩ : ∃ wq, wq = (w.alloc (.cells (msC a).toArray 36)).alloc (.cells (msC b).toArray 36) := ⟨_, rfl⟩
  have HVa : Hid (Vr wq w.heap.size (msC a)) := Lib.hid (by rw [hwq]; exact (Vr.new w (msC a) 36).below (below_new _ _))
  have HVb : Hid (Vr wq (w.heap.size + 1) (msC b)) := Lib.hid (by rw [hwq]; exact Vr.new' _ (msC b) 36 (by simp))
  have HBq : Hid (Below w.heap.size w wq) := Lib.hid (by rw [hwq]; exact bon (below_new _ _) (below_new _ _))
  have HRa : Hid (∀ W, Below wq.heap.size wq W → W.rangeAt w.heap.size 0 (msC a)) := Lib.hid (fun W h => (HVa.out.below h).range)
  have HRb : Hid (∀ W, Below wq.heap.size wq W → W.rangeAt (w.heap.size + 1) 0 (msC b)) := Lib.hid (fun W h => (HVb.out.below h).range)
  have HLow : Hid (∀ W, Below wq.heap.size wq W → Below w.heap.size w W) := Lib.hid (fun W h => bon HBq.out h)
  have HCa : Hid (∀ W, Below wq.heap.size wq W → Calls Tryz.prog 22 #[.agg (msC a).toArray] W fun e W' => e = .returned (.string ⟨(encMs a).toArray⟩) ∧ Below wq.heap.size wq W') := Lib.hid (fun W h => (refEncode_any a W (Ms.below ha (HLow.out W h)) sa).mono fun e W' ⟨he, hw⟩ => ⟨he, bon h hw⟩)
  have HCb : Hid (∀ W, Below wq.heap.size wq W → Calls Tryz.prog 22 #[.agg (msC b).toArray] W fun e W' => e = .returned (.string ⟨(encMs b).toArray⟩) ∧ Below wq.heap.size wq W') := Lib.hid (fun W h => (refEncode_any b W (Ms.below hb (HLow.out W h)) sb).mono fun e W' ⟨he, hw⟩ => ⟨he, bon h hw⟩)
  have hwq2 : (w.alloc (.cells (msC a).toArray 36)).alloc (.cells (msC b).toArray 36) = wq := hwq.symm
  have HWq := Lib.hid hwq2
  clear ha hb sa sb hwq hwq2 HVa HVb HBq
  generalize encMs a = la at HCa ⊢
  generalize encMs b = lb at HCb ⊢
  go_enter Tryz.func17, Tryz.ntmps17
  go_upto_region 1 with fail
  rw [HWq.out]
  refine wp_region_noPanic ?_
  refine wp_region_held_drew (S := fun W => Below wq.heap.size wq W) (by kernel_rfl) ((Below.refl _ _).drew) (fun hHeld => ?_)
  refine wpAnyH_take (i := 0) (oi := _) rfl (by kernel_rfl) (by kernel_rfl) (by kernel_rfl) (fun _ _ _ h => h) (yieldsIf_load_mid (by rfl) 36 _ (by rfl) _ 0 (by rfl) (msC a) _ HRa.out Tryz.underlying36 rfl (infoMsn a)) (by assumption) ?_
  try simp only [Act.put, List.setIfInBounds_toArray, List.set_cons_zero, List.set_cons_succ, List.getElem_toArray, List.getElem_cons_zero]
  refine wpAnyH_take (i := 2) (oi := _) rfl (by kernel_rfl) (by kernel_rfl) (by kernel_rfl) (fun _ _ _ h => h) (yieldsIf_load_mid (by rfl) 36 _ (by rfl) _ 0 (by rfl) (msC b) _ HRb.out Tryz.underlying36 rfl (infoMsn b)) (by assumption) ?_
  try simp only [Act.put, List.setIfInBounds_toArray, List.set_cons_zero, List.set_cons_succ, List.getElem_toArray, List.getElem_cons_succ, List.getElem_cons_zero]
  refine wpAnyH_ready (rs := [1]) (by kernel_rfl) (by simp) ?_
  refine AllReadyH.cons (o := _) rfl (fun K hK => ?_) AllReadyH.nil
  go_simp
  go_at_call 22
  refine (HCa.out _ (by assumption)).mono ?_
  rintro e w4 ⟨rfl, bw4⟩
  go_wp2_with fail
  refine hK.out _ _ bw4 (fun hHeld => ?_)
  clear hK K
  try simp only [Act.put, List.setIfInBounds_toArray, List.set_cons_zero, List.set_cons_succ, List.getElem_toArray, List.getElem_cons_succ, List.getElem_cons_zero]
  refine wpAnyH_ready (rs := [3]) (by kernel_rfl) (by simp) ?_
  refine AllReadyH.cons (o := _) rfl (fun K hK => ?_) AllReadyH.nil
  go_simp
  go_at_call 22
  refine (HCb.out _ (by assumption)).mono ?_
  rintro e w5 ⟨rfl, bw5⟩
  go_wp2_with fail
  refine hK.out _ _ bw5 (fun hHeld => ?_)
  clear hK K
  try simp only [Act.put, List.setIfInBounds_toArray, List.set_cons_zero, List.set_cons_succ, List.getElem_toArray, List.getElem_cons_succ, List.getElem_cons_zero]
  refine wpAnyH_take (i := 4) (oi := _) (v := ?_) rfl (by kernel_rfl) (by kernel_rfl) (by kernel_rfl) (fun _ _ _ h => h) (Or.inl ⟨by rfl, ?_⟩) (by assumption) ?_
  rotate_left
  · intro W hSw; (try dsimp only at hSw); go_simp; try with_reducible rfl
  try simp only [Act.put, List.setIfInBounds_toArray, List.set_cons_zero, List.set_cons_succ, List.getElem_toArray, List.getElem_cons_succ, List.getElem_cons_zero]
  refine wpAnyH_ready (rs := [5]) (by kernel_rfl) (by simp) ?_
  refine AllReadyH.cons (o := _) rfl (fun K hK => ?_) AllReadyH.nil
  go_simp
  refine hK.out _ _ bw5 (fun hHeld => ?_)
  clear hK K
  try simp only [Act.put, List.setIfInBounds_toArray, List.set_cons_zero, List.set_cons_succ, List.getElem_toArray, List.getElem_cons_succ, List.getElem_cons_zero]
  refine wpAnyH_done (by kernel_rfl) ?_ _
  refine NoPanic.normal ?_
  go_wp2_with fail
  go_ret
  exact ret_bl rfl (HLow.out _ bw5)
end Go.Proofs.YtoehakekjlebdaaGreatDoor
