/- The contract of the reference's Decode. -/
import Derived.Test.YtikpcebhcnjkhaaGreatDoorSPl
import Derived.Test.YtikpcebhcnjkhaaGreatDoorSEd
namespace Go.Proofs.YtikpcebhcnjkhaaGreatDoor.Q40
open Go.Proofs.YtikpcebhcnjkhaaGreatDoor
open Go.RowKit
theorem retRS_none {P : Program} {f : FuncId} {args : Array Value} {o : Option (List (List UInt8))} {w : World} (h : Calls P f args w (RetRS o w)) (hl : o = none) :
    Calls P f args w fun e w' => (∃ A n c, e = .returned (.tuple #[.slice A n c, .bool false])) ∧ Below w.heap.size w w' :=
 h.mono fun _ _ ⟨hw, he⟩ => by subst hl; exact ⟨he, hw⟩
theorem retRS_some {P : Program} {f : FuncId} {args : Array Value} {o : Option (List (List UInt8))} {w : World} {xs : List (List UInt8)} (h : Calls P f args w (RetRS o w)) (hl : o = some xs) :
    Calls P f args w fun e w' => (∃ A c, e = .returned (.tuple #[.slice A xs.length c, .bool true]) ∧ Rd w' 1 A xs.length (strC xs) ∧ xs.length ≤ c ∧ c ≤ 9223372036854775807) ∧ Below w.heap.size w w' :=
 h.mono fun _ _ ⟨hw, he⟩ => by subst hl; exact ⟨he, hw⟩
theorem refGo_len : ∀ (k : Nat) (s : List UInt8) (xs : List (List UInt8)) (m : Nat), refGo k s = some (xs, m) → xs.length = k ∧ ∀ x ∈ xs, x.length ≤ 200
 | 0, s, xs, m, h => by simp only [refGo, Option.some.injEq, Prod.mk.injEq] at h; obtain ⟨rfl, _⟩ := h; simp
 | k + 1, s, xs, m, h => by
  rw [refGo] at h
  split at h
  · simp at h
  · split at h
    · simp at h
    · rename_i ys m' hg
      simp only [Option.some.injEq, Prod.mk.injEq] at h
      obtain ⟨rfl, _⟩ := h
      obtain ⟨i1, i2⟩ := refGo_len k _ _ _ hg
      refine ⟨by simp [i1], fun x hx => ?_⟩
      rcases List.mem_cons.1 hx with rfl | hx
      · have := (takeR_le s 200).2
        rw [List.length_take]; omega
      · exact i2 x hx
theorem refStrs_len {s : List UInt8} {xs : List (List UInt8)} (h : refStrs s = some xs) : xs.length ≤ 25 ∧ ∀ x ∈ xs, x.length ≤ 200 := by
 unfold refStrs at h
 split at h
 · simp at h
 · split at h
   · simp at h
   · rename_i ys m hg
     split at h
     · simp only [Option.some.injEq] at h
       subst h
       obtain ⟨i1, i2⟩ := refGo_len _ _ _ _ hg
       have := (takeR_le s 25).2
       exact ⟨by omega, i2⟩
     · simp at h
theorem numR_i64 (s : List UInt8) : I64 (numR s) := by
 unfold numR
 split
 · rename_i h
   have h1 := valD_lt s h.2.1
   have h2 : 10 ^ s.length ≤ 10 ^ 7 := Nat.pow_le_pow_right (by omega) h.1
   exact ⟨by omega, by omega⟩
 · exact ⟨by decide, by decide⟩
theorem readR_finish (t : List (List UInt8)) : readR (wFinish :: t) = ⟨3, 0, []⟩ := by rw [readR, if_pos rfl]
theorem readR_join (x : List UInt8) : readR [wJoin, x] = ⟨2, numR x, []⟩ := by rw [readR, if_neg (by decide), if_pos ⟨rfl, rfl⟩]; rfl
theorem readR_batch (t : List (List UInt8)) (h : t.length % 3 = 0) : readR (wBatch :: t) = ⟨1, 0, tripR t⟩ := by
 rw [readR, if_neg (by decide), if_neg (by intro hh; exact absurd hh.1 (by decide)), if_pos ⟨rfl, h⟩]
theorem readR_other (h : List UInt8) (t : List (List UInt8)) (h1 : h ≠ wFinish) (h2 : ¬ (h = wJoin ∧ t.length = 1)) (h3 : ¬ (h = wBatch ∧ t.length % 3 = 0)) : readR (h :: t) = ⟨0, 0, []⟩ := by
 rw [readR, if_neg h1, if_neg h2, if_neg h3]
set_option maxRecDepth 100000 in
set_option maxHeartbeats 2000000 in
theorem refDecode_bad (s : List UInt8)  (w : World) (hs : s.length ≤ 1048576) (hg : refStrs s = none) : Calls Tryz.prog 73 #[.string ⟨s.toArray⟩] w (RetDec (decE s) w) := by
 have B0 := hD (below_new w (.cells #[.int .i64 0, .int .i64 0, .slice none 0 0] 95))
 have HL := hD (retRS_none (refStrs_any ⟨s.toArray⟩ (w.alloc (.cells #[.int .i64 0, .int .i64 0, .slice none 0 0] 95)) (by rw [size_mk]; omega)) hg)
 have HD := hD (decE_refBad hg)
 clear hg
 go_enter Tryz.func73, Tryz.ntmps73
 go_wp2_with fail
 refine HL.out.mono ?_
 rintro e w1 ⟨⟨A, n, c, rfl⟩, b1⟩
 have B1 := hD (bon B0.out b1)
 have hz : w.heap.size < w1.heap.size := by have := b1.size; simp at this; omega
 obtain ⟨⟨c0, c1, c2⟩, f0, f1, f2⟩ := own3 (by simpa using b1)
 clear b1
 go_wp2_with fail
 exact bodyPost_ret (v := .tuple #[.agg #[.int .i64 0, .int .i64 0, .slice none 0 0], .int .i64 2]) (by simp [results, Tryz.results73, go_sem, c0, c1, c2]) rfl (ret_d_none HD.out (((B1.out.setCell (Nat.le_refl _) _).setCell (Nat.le_refl _) _).setCell (Nat.le_refl _) _))
set_option maxRecDepth 100000 in
set_option maxHeartbeats 2000000 in
theorem refDecode_nil (s : List UInt8)  (w : World) (hs : s.length ≤ 1048576) (hg : refStrs s = some []) : Calls Tryz.prog 73 #[.string ⟨s.toArray⟩] w (RetDec (decE s) w) := by
 have B0 := hD (below_new w (.cells #[.int .i64 0, .int .i64 0, .slice none 0 0] 95))
 have HL := hD (retRS_some (refStrs_any ⟨s.toArray⟩ (w.alloc (.cells #[.int .i64 0, .int .i64 0, .slice none 0 0] 95)) (by rw [size_mk]; omega)) hg)
 have HD := hD (decE_refNil hg)
 clear hg
 go_enter Tryz.func73, Tryz.ntmps73
 go_wp2_with fail
 refine HL.out.mono ?_
 rintro e w1 ⟨⟨A, c, rfl, _, _, _⟩, b1⟩
 have B1 := hD (bon B0.out b1)
 have hz : w.heap.size < w1.heap.size := by have := b1.size; simp at this; omega
 obtain ⟨⟨c0, c1, c2⟩, f0, f1, f2⟩ := own3 (by simpa using b1)
 clear b1
 simp only [List.length_nil]
 go_wp2_with fail
 exact bodyPost_ret (v := .tuple #[.agg #[.int .i64 0, .int .i64 0, .slice none 0 0], .int .i64 2]) (by simp [results, Tryz.results73, go_sem, c0, c1, c2]) rfl (ret_d_none HD.out (((B1.out.setCell (Nat.le_refl _) _).setCell (Nat.le_refl _) _).setCell (Nat.le_refl _) _))
set_option maxRecDepth 100000 in
set_option maxHeartbeats 2000000 in
theorem refDecode_finish (s : List UInt8) (t : List (List UInt8)) (w : World) (hs : s.length ≤ 1048576) (hg : refStrs s = some (wFinish :: t)) : Calls Tryz.prog 73 #[.string ⟨s.toArray⟩] w (RetDec (decE s) w) := by
 have B0 := hD (below_new w (.cells #[.int .i64 0, .int .i64 0, .slice none 0 0] 95))
 have HL := hD (retRS_some (refStrs_any ⟨s.toArray⟩ (w.alloc (.cells #[.int .i64 0, .int .i64 0, .slice none 0 0] 95)) (by rw [size_mk]; omega)) hg)
 have HD := hD (decE_ref hg)
 have hlen := refStrs_len hg
 have HR := hD (O3.new w (.int .i64 0) (.int .i64 0) (.slice none 0 0) 95)
 have ht : t.length ≤ 25 := by have := hlen.1; simp only [List.length_cons] at this; omega
 have htc : ((t.length : Int) + 1 == 0) = false := by rw [beq_eq_false_iff_ne]; omega
 clear hlen
 clear hg
 go_enter Tryz.func73, Tryz.ntmps73
 go_wp2_with fail
 refine HL.out.mono ?_
 rintro e w1 ⟨⟨A, c, rfl, r1, hc, hcm⟩, b1⟩
 have B1 := hD (bon B0.out b1)
 have HR1 := hD (HR.out.below b1)
 obtain ⟨g, o, rfl, hgl, hcc⟩ := r1.cells (by simp [strC])
 have a0 : w1.cell? ⟨g, o, none⟩ = some (.string ⟨#[102, 105, 110, 105, 115, 104]⟩) := by simpa [strC, wFinish] using hcc 0 _ rfl
 have hn1 := HR1.out.lt
 have HO1 := hD (O3.new w1 (.int .i64 0) (.int .i64 0) (.slice none 0 0) 95)
 have HO3' := hD (O3.new w1 (.int .i64 3) (.int .i64 0) (.slice none 0 0) 95)
 have B3' := hD (B1.out.alloc B1.out.size (.cells #[.int .i64 3, .int .i64 0, .slice none 0 0] 95))
 have HR3' := hD (HR1.out.alloc (.cells #[.int .i64 3, .int .i64 0, .slice none 0 0] 95))
 have e0 : (w1.alloc (.cells #[.int .i64 0, .int .i64 0, .slice none 0 0] 95)).cell? ⟨g, o, none⟩ = some (.string ⟨#[102, 105, 110, 105, 115, 104]⟩) := ((below_new w1 _).cell (p := ⟨g, o, none⟩) hgl).trans a0
 clear b1 r1 hcc
 simp only [List.length_cons]
 go_wp2_with fail
 generalize w1.alloc (.cells #[.int .i64 3, .int .i64 0, .slice none 0 0] 95) = wx at B3' HR3' HO3' ⊢
 have B3 := B3'
 have HR3 := HR3'
 have HO3 := HO3'
 have HQ3 := hD (rqIn_nil wx)
 have HVal := refValid_any 3 0 [] none 0 wx HQ3.out
 by_cases hv : vEn ⟨3, 0, []⟩ = 0
 · rw [hv] at HVal
   refine HVal.mono ?_
   rintro e w3 ⟨rfl, b3⟩
   have B4 := hD (bon B3.out b3)
   have HR4 := hD (HR3.out.below b3)
   have HO4 := hD (HO3.out.below b3)
   have HQ4 := hD (HQ3.out.below b3)
   obtain ⟨hlt4, p0, p1, p2, f0, f1, f2⟩ := HO4.out
   clear b3
   go_wp2_with fail
   have HVl := refValue_any 3 0 [] none 0 w3 HQ4.out hv
   by_cases hq : valE ⟨3, 0, []⟩ = s
   · rw [hq] at HVl
     refine HVl.mono ?_
     rintro e w4 ⟨rfl, b4⟩
     have B5 := hD (bon B4.out b4)
     have HR5 := hD (HR4.out.below b4)
     have HO5 := hD (HO4.out.below b4)
     have HQ5 := hD (HQ4.out.below b4)
     have HY : Hid (decE s = some ⟨3, 0, []⟩) := hD (by rw [HD.out, readR_finish, if_pos ⟨hv, hq⟩])
     clear b4 p0 p1 p2 f0 f1 f2 hv hq
     obtain ⟨hlt5, p0, p1, p2, f0, f1, f2⟩ := HO5.out
     obtain ⟨hlt6, r0, r1, r2, s0, s1, s2⟩ := HR5.out
     go_wp2_with fail
     refine bodyPost_ret (v := .tuple #[.agg #[.int .i64 (3), .int .i64 (0), .slice none 0 0], .int .i64 0]) (by simp [results, Tryz.results73, go_sem, r0, r1, r2]) rfl (ret_d_some HY.out (((B5.out.setCell (Nat.le_refl _) _).setCell (Nat.le_refl _) _).setCell (Nat.le_refl _) _) rfl ?_)
     exact rqIn_sets HQ5.out (fun a h => by cases h) _ _ _
   · have HY : Hid (decE s = none) := hD (by rw [HD.out, readR_finish, if_neg (fun h => hq h.2)])
     have hq1 : (valE ⟨3, 0, []⟩ == s) = false := by simpa using hq
     generalize valE ⟨3, 0, []⟩ = v at HVl hq1 hq
     refine HVl.mono ?_
     rintro e w4 ⟨rfl, b4⟩
     have B5 := hD (bon B4.out b4)
     have HR5 := hD (HR4.out.below b4)
     clear b4 p0 p1 p2 f0 f1 f2 hv hq
     obtain ⟨hlt6, r0, r1, r2, s0, s1, s2⟩ := HR5.out
     go_wp2_with fail
     exact bodyPost_ret (v := .tuple #[.agg #[.int .i64 0, .int .i64 0, .slice none 0 0], .int .i64 2]) (by simp [results, Tryz.results73, go_sem, r0, r1, r2]) rfl (ret_d_none HY.out (((B5.out.setCell (Nat.le_refl _) _).setCell (Nat.le_refl _) _).setCell (Nat.le_refl _) _))
 · have HY : Hid (decE s = none) := hD (by rw [HD.out, readR_finish, if_neg (fun h => hv h.1)])
   generalize vEn ⟨3, 0, []⟩ = v at HVal hv
   have hv1 : (v == 0) = false := by simpa using hv
   have hv2 : (v != 0) = true := by simpa using hv
   refine HVal.mono ?_
   rintro e w3 ⟨rfl, b3⟩
   have B4 := hD (bon B3.out b3)
   have HR4 := hD (HR3.out.below b3)
   clear b3 hv
   obtain ⟨hlt6, r0, r1, r2, s0, s1, s2⟩ := HR4.out
   go_wp2_with fail
   exact bodyPost_ret (v := .tuple #[.agg #[.int .i64 0, .int .i64 0, .slice none 0 0], .int .i64 2]) (by simp [results, Tryz.results73, go_sem, r0, r1, r2]) rfl (ret_d_none HY.out (((B4.out.setCell (Nat.le_refl _) _).setCell (Nat.le_refl _) _).setCell (Nat.le_refl _) _))
set_option maxRecDepth 100000 in
set_option maxHeartbeats 2000000 in
theorem refDecode_join (s : List UInt8) (x : List UInt8) (w : World) (hs : s.length ≤ 1048576) (hg : refStrs s = some [wJoin, x]) : Calls Tryz.prog 73 #[.string ⟨s.toArray⟩] w (RetDec (decE s) w) := by
 have B0 := hD (below_new w (.cells #[.int .i64 0, .int .i64 0, .slice none 0 0] 95))
 have HL := hD (retRS_some (refStrs_any ⟨s.toArray⟩ (w.alloc (.cells #[.int .i64 0, .int .i64 0, .slice none 0 0] 95)) (by rw [size_mk]; omega)) hg)
 have HD := hD (decE_ref hg)
 have hlen := refStrs_len hg
 have HR := hD (O3.new w (.int .i64 0) (.int .i64 0) (.slice none 0 0) 95)
 have hx : x.length ≤ 200 := hlen.2 x (by simp)
 have HI64 := hD (numR_i64 x)
 clear hlen
 clear hg
 go_enter Tryz.func73, Tryz.ntmps73
 go_wp2_with fail
 refine HL.out.mono ?_
 rintro e w1 ⟨⟨A, c, rfl, r1, hc, hcm⟩, b1⟩
 have B1 := hD (bon B0.out b1)
 have HR1 := hD (HR.out.below b1)
 obtain ⟨g, o, rfl, hgl, hcc⟩ := r1.cells (by simp [strC])
 have a0 : w1.cell? ⟨g, o, none⟩ = some (.string ⟨#[106, 111, 105, 110]⟩) := by simpa [strC, wJoin] using hcc 0 _ rfl
 have a1 : w1.cell? ⟨g, o + 1, none⟩ = some (.string ⟨x.toArray⟩) := by simpa [strC] using hcc 1 _ rfl
 have hn1 := HR1.out.lt
 have HO1 := hD (O3.new w1 (.int .i64 0) (.int .i64 0) (.slice none 0 0) 95)
 clear r1 hcc
 simp only [List.length_cons, List.length_nil]
 go_wp2_with fail
 refine (number_any ⟨x.toArray⟩ _ (by rw [size_mk]; omega)).mono ?_
 rintro e w2 ⟨rfl, b2⟩
 have B2 := hD (bon (B1.out.alloc B1.out.size _) b2)
 have HR2 := hD ((HR1.out.below (below_new w1 _)).below b2)
 have HO2 := hD (HO1.out.below b2)
 obtain ⟨hlt2, p0, p1, p2, f0, f1, f2⟩ := HO2.out
 have B3 := hD ((B2.out.setCell (p := ⟨w1.heap.size, 0, none⟩) (by show w.heap.size ≤ w1.heap.size; omega) (.int .i64 2)).setCell (p := ⟨w1.heap.size, 1, none⟩) (by show w.heap.size ≤ w1.heap.size; omega) (.int .i64 (numR x)))
 have HR3 := hD ((HR2.out.far ⟨w1.heap.size, 0, none⟩ (by show w1.heap.size ≠ w.heap.size; omega) (.int .i64 2)).far ⟨w1.heap.size, 1, none⟩ (by show w1.heap.size ≠ w.heap.size; omega) (.int .i64 (numR x)))
 have HO3 := hD ((HO2.out.set0 (.int .i64 2)).set1 (.int .i64 (numR x)))
 clear b2 b1
 go_wp2_with fail
 clear p0 p1 p2 f0 f1 f2
 generalize (w2.setCell ⟨w1.heap.size, 0, none⟩ (.int .i64 2)).setCell ⟨w1.heap.size, 1, none⟩ (.int .i64 (numR x)) = wx at B3 HR3 HO3 ⊢
 have HQ3 := hD (rqIn_nil wx)
 have HVal := refValid_any 2 (numR x) [] none 0 wx HQ3.out
 by_cases hv : vEn ⟨2, (numR x), []⟩ = 0
 · rw [hv] at HVal
   refine HVal.mono ?_
   rintro e w3 ⟨rfl, b3⟩
   have B4 := hD (bon B3.out b3)
   have HR4 := hD (HR3.out.below b3)
   have HO4 := hD (HO3.out.below b3)
   have HQ4 := hD (HQ3.out.below b3)
   obtain ⟨hlt4, p0, p1, p2, f0, f1, f2⟩ := HO4.out
   clear b3
   go_wp2_with fail
   have HVl := refValue_any 2 (numR x) [] none 0 w3 HQ4.out hv
   by_cases hq : valE ⟨2, (numR x), []⟩ = s
   · rw [hq] at HVl
     refine HVl.mono ?_
     rintro e w4 ⟨rfl, b4⟩
     have B5 := hD (bon B4.out b4)
     have HR5 := hD (HR4.out.below b4)
     have HO5 := hD (HO4.out.below b4)
     have HQ5 := hD (HQ4.out.below b4)
     have HY : Hid (decE s = some ⟨2, (numR x), []⟩) := hD (by rw [HD.out, readR_join, if_pos ⟨hv, hq⟩])
     clear b4 p0 p1 p2 f0 f1 f2 hv hq
     obtain ⟨hlt5, p0, p1, p2, f0, f1, f2⟩ := HO5.out
     obtain ⟨hlt6, r0, r1, r2, s0, s1, s2⟩ := HR5.out
     go_wp2_with fail
     refine bodyPost_ret (v := .tuple #[.agg #[.int .i64 (2), .int .i64 ((numR x)), .slice none 0 0], .int .i64 0]) (by simp [results, Tryz.results73, go_sem, r0, r1, r2]) rfl (ret_d_some HY.out (((B5.out.setCell (Nat.le_refl _) _).setCell (Nat.le_refl _) _).setCell (Nat.le_refl _) _) rfl ?_)
     exact rqIn_sets HQ5.out (fun a h => by cases h) _ _ _
   · have HY : Hid (decE s = none) := hD (by rw [HD.out, readR_join, if_neg (fun h => hq h.2)])
     have hq1 : (valE ⟨2, (numR x), []⟩ == s) = false := by simpa using hq
     generalize valE ⟨2, (numR x), []⟩ = v at HVl hq1 hq
     refine HVl.mono ?_
     rintro e w4 ⟨rfl, b4⟩
     have B5 := hD (bon B4.out b4)
     have HR5 := hD (HR4.out.below b4)
     clear b4 p0 p1 p2 f0 f1 f2 hv hq
     obtain ⟨hlt6, r0, r1, r2, s0, s1, s2⟩ := HR5.out
     go_wp2_with fail
     exact bodyPost_ret (v := .tuple #[.agg #[.int .i64 0, .int .i64 0, .slice none 0 0], .int .i64 2]) (by simp [results, Tryz.results73, go_sem, r0, r1, r2]) rfl (ret_d_none HY.out (((B5.out.setCell (Nat.le_refl _) _).setCell (Nat.le_refl _) _).setCell (Nat.le_refl _) _))
 · have HY : Hid (decE s = none) := hD (by rw [HD.out, readR_join, if_neg (fun h => hv h.1)])
   generalize vEn ⟨2, (numR x), []⟩ = v at HVal hv
   have hv1 : (v == 0) = false := by simpa using hv
   have hv2 : (v != 0) = true := by simpa using hv
   refine HVal.mono ?_
   rintro e w3 ⟨rfl, b3⟩
   have B4 := hD (bon B3.out b3)
   have HR4 := hD (HR3.out.below b3)
   clear b3 hv
   obtain ⟨hlt6, r0, r1, r2, s0, s1, s2⟩ := HR4.out
   go_wp2_with fail
   exact bodyPost_ret (v := .tuple #[.agg #[.int .i64 0, .int .i64 0, .slice none 0 0], .int .i64 2]) (by simp [results, Tryz.results73, go_sem, r0, r1, r2]) rfl (ret_d_none HY.out (((B4.out.setCell (Nat.le_refl _) _).setCell (Nat.le_refl _) _).setCell (Nat.le_refl _) _))
set_option maxRecDepth 100000 in
set_option maxHeartbeats 2000000 in
theorem refDecode_other (s : List UInt8) (h : List UInt8) (t : List (List UInt8)) (w : World) (hs : s.length ≤ 1048576) (hg : refStrs s = some (h :: t)) (h1 : h ≠ wFinish) (h2 : ¬ (h = wJoin ∧ t.length = 1)) (h3 : ¬ (h = wBatch ∧ t.length % 3 = 0)) : Calls Tryz.prog 73 #[.string ⟨s.toArray⟩] w (RetDec (decE s) w) := by
 have B0 := hD (below_new w (.cells #[.int .i64 0, .int .i64 0, .slice none 0 0] 95))
 have HL := hD (retRS_some (refStrs_any ⟨s.toArray⟩ (w.alloc (.cells #[.int .i64 0, .int .i64 0, .slice none 0 0] 95)) (by rw [size_mk]; omega)) hg)
 have HD := hD (decE_ref hg)
 have hlen := refStrs_len hg
 have HR := hD (O3.new w (.int .i64 0) (.int .i64 0) (.slice none 0 0) 95)
 have HEq := hD (readR_other h t h1 h2 h3)
 have ht : t.length ≤ 25 := by have := hlen.1; simp only [List.length_cons] at this; omega
 have htc : ((t.length : Int) + 1 == 0) = false := by rw [beq_eq_false_iff_ne]; omega
 have hf1 : (h == [102, 105, 110, 105, 115, 104]) = false := by rw [beq_eq_false_iff_ne]; exact h1
 have hf2 : ¬ h = [102, 105, 110, 105, 115, 104] := h1
 have htm : ((t.length : Int) + 1).tmod 3 = ((t.length : Int) + 1) % 3 := Int.tmod_eq_emod_of_nonneg (by omega)
 have hways : ((h == [106, 111, 105, 110]) = false ∧ ¬ h = [106, 111, 105, 110] ∧ (h == [98, 97, 116, 99, 104]) = false ∧ ¬ h = [98, 97, 116, 99, 104]) ∨ (h = [106, 111, 105, 110] ∧ ((t.length : Int) + 1 == 2) = false) ∨ (h = [98, 97, 116, 99, 104] ∧ (((t.length : Int) + 1).tmod 3 == 1) = false) := by
  by_cases hj : h = [106, 111, 105, 110]
  · exact .inr (.inl ⟨hj, by rw [beq_eq_false_iff_ne]; intro h9; exact h2 ⟨hj, by omega⟩⟩)
  · by_cases hb : h = [98, 97, 116, 99, 104]
    · exact .inr (.inr ⟨hb, by rw [beq_eq_false_iff_ne, htm]; intro h9; exact h3 ⟨hb, by omega⟩⟩)
    · exact .inl ⟨by rw [beq_eq_false_iff_ne]; exact hj, hj, by rw [beq_eq_false_iff_ne]; exact hb, hb⟩
 clear hlen h1 h2 h3
 clear hg
 go_enter Tryz.func73, Tryz.ntmps73
 go_wp2_with fail
 refine HL.out.mono ?_
 rintro e w1 ⟨⟨A, c, rfl, r1, hc, hcm⟩, b1⟩
 have B1 := hD (bon B0.out b1)
 have HR1 := hD (HR.out.below b1)
 obtain ⟨g, o, rfl, hgl, hcc⟩ := r1.cells (by simp [strC])
 have a0 : w1.cell? ⟨g, o, none⟩ = some (.string ⟨h.toArray⟩) := by simpa [strC] using hcc 0 _ rfl
 have hn1 := HR1.out.lt
 have HO1 := hD (O3.new w1 (.int .i64 0) (.int .i64 0) (.slice none 0 0) 95)
 have e0 : (w1.alloc (.cells #[.int .i64 0, .int .i64 0, .slice none 0 0] 95)).cell? ⟨g, o, none⟩ = some (.string ⟨h.toArray⟩) := ((below_new w1 _).cell (p := ⟨g, o, none⟩) hgl).trans a0
 have B3 := hD (B1.out.alloc B1.out.size (.cells #[.int .i64 0, .int .i64 0, .slice none 0 0] 95))
 have HR3 := hD (HR1.out.alloc (.cells #[.int .i64 0, .int .i64 0, .slice none 0 0] 95))
 have HO3 := HO1
 clear b1 r1 hcc
 simp only [List.length_cons]
 rcases hways with ⟨j1, j2, j3, j4⟩ | ⟨rfl, j1⟩ | ⟨rfl, j1⟩
 all_goals
  go_wp2_with fail
  generalize w1.alloc (.cells #[.int .i64 0, .int .i64 0, .slice none 0 0] 95) = wx at B3 HR3 HO3 e0 ⊢
  have HQ3 := hD (rqIn_nil wx)
  have HVal := refValid_any 0 0 [] none 0 wx HQ3.out
  by_cases hv : vEn ⟨0, 0, []⟩ = 0
  · rw [hv] at HVal
    refine HVal.mono ?_
    rintro e w3 ⟨rfl, b3⟩
    have B4 := hD (bon B3.out b3)
    have HR4 := hD (HR3.out.below b3)
    have HO4 := hD (HO3.out.below b3)
    have HQ4 := hD (HQ3.out.below b3)
    obtain ⟨hlt4, p0, p1, p2, f0, f1, f2⟩ := HO4.out
    clear b3
    go_wp2_with fail
    have HVl := refValue_any 0 0 [] none 0 w3 HQ4.out hv
    by_cases hq : valE ⟨0, 0, []⟩ = s
    · rw [hq] at HVl
      refine HVl.mono ?_
      rintro e w4 ⟨rfl, b4⟩
      have B5 := hD (bon B4.out b4)
      have HR5 := hD (HR4.out.below b4)
      have HO5 := hD (HO4.out.below b4)
      have HQ5 := hD (HQ4.out.below b4)
      have HY : Hid (decE s = some ⟨0, 0, []⟩) := hD (by rw [HD.out, HEq.out, if_pos ⟨hv, hq⟩])
      clear b4 p0 p1 p2 f0 f1 f2 hv hq
      obtain ⟨hlt5, p0, p1, p2, f0, f1, f2⟩ := HO5.out
      obtain ⟨hlt6, r0, r1, r2, s0, s1, s2⟩ := HR5.out
      go_wp2_with fail
      refine bodyPost_ret (v := .tuple #[.agg #[.int .i64 (0), .int .i64 (0), .slice none 0 0], .int .i64 0]) (by simp [results, Tryz.results73, go_sem, r0, r1, r2]) rfl (ret_d_some HY.out (((B5.out.setCell (Nat.le_refl _) _).setCell (Nat.le_refl _) _).setCell (Nat.le_refl _) _) rfl ?_)
      exact rqIn_sets HQ5.out (fun a h => by cases h) _ _ _
    · have HY : Hid (decE s = none) := hD (by rw [HD.out, HEq.out, if_neg (fun h => hq h.2)])
      have hq1 : (valE ⟨0, 0, []⟩ == s) = false := by simpa using hq
      generalize valE ⟨0, 0, []⟩ = v at HVl hq1 hq
      refine HVl.mono ?_
      rintro e w4 ⟨rfl, b4⟩
      have B5 := hD (bon B4.out b4)
      have HR5 := hD (HR4.out.below b4)
      clear b4 p0 p1 p2 f0 f1 f2 hv hq
      obtain ⟨hlt6, r0, r1, r2, s0, s1, s2⟩ := HR5.out
      go_wp2_with fail
      exact bodyPost_ret (v := .tuple #[.agg #[.int .i64 0, .int .i64 0, .slice none 0 0], .int .i64 2]) (by simp [results, Tryz.results73, go_sem, r0, r1, r2]) rfl (ret_d_none HY.out (((B5.out.setCell (Nat.le_refl _) _).setCell (Nat.le_refl _) _).setCell (Nat.le_refl _) _))
  · have HY : Hid (decE s = none) := hD (by rw [HD.out, HEq.out, if_neg (fun h => hv h.1)])
    generalize vEn ⟨0, 0, []⟩ = v at HVal hv
    have hv1 : (v == 0) = false := by simpa using hv
    have hv2 : (v != 0) = true := by simpa using hv
    refine HVal.mono ?_
    rintro e w3 ⟨rfl, b3⟩
    have B4 := hD (bon B3.out b3)
    have HR4 := hD (HR3.out.below b3)
    clear b3 hv
    obtain ⟨hlt6, r0, r1, r2, s0, s1, s2⟩ := HR4.out
    go_wp2_with fail
    exact bodyPost_ret (v := .tuple #[.agg #[.int .i64 0, .int .i64 0, .slice none 0 0], .int .i64 2]) (by simp [results, Tryz.results73, go_sem, r0, r1, r2]) rfl (ret_d_none HY.out (((B4.out.setCell (Nat.le_refl _) _).setCell (Nat.le_refl _) _).setCell (Nat.le_refl _) _))
open Go.Proofs.YtikpcebhcnjkhaaGreatDoor
open Go.RowKit
set_option maxRecDepth 100000 in
set_option maxHeartbeats 4000000 in
theorem refDecode_batch (s : List UInt8) (t : List (List UInt8)) (w : World) (hs : s.length ≤ 1048576) (hg : refStrs s = some (wBatch :: t)) (h3 : t.length % 3 = 0) : Calls Tryz.prog 73 #[.string ⟨s.toArray⟩] w (RetDec (decE s) w) := by
 have B0 := hD (below_new w (.cells #[.int .i64 0, .int .i64 0, .slice none 0 0] 95))
 have HL := hD (retRS_some (refStrs_any ⟨s.toArray⟩ (w.alloc (.cells #[.int .i64 0, .int .i64 0, .slice none 0 0] 95)) (by rw [size_mk]; omega)) hg)
 have HD := hD (decE_ref hg)
 have hlen := refStrs_len hg
 have HR := hD (O3.new w (.int .i64 0) (.int .i64 0) (.slice none 0 0) 95)
 obtain ⟨en, hen⟩ : ∃ en, en = readR (wBatch :: t) := ⟨_, rfl⟩
 have HD2 : Hid (decE s = if vEn en = 0 ∧ valE en = s then some en else none) := hD (by rw [hen]; exact HD.out)
 have HEq : Hid (en = ⟨1, 0, tripR t⟩) := hD (by rw [hen]; exact readR_batch t h3)
 clear HD hen
 have HD := HD2
 clear HD2
 have ht : t.length ≤ 25 := by have := hlen.1; simp only [List.length_cons] at this; omega
 have HLen : Hid (∀ x ∈ t, x.length ≤ 200) := hD (fun x hx => hlen.2 x (by simp [hx]))
 have htc : ((t.length : Int) + 1 == 0) = false := by rw [beq_eq_false_iff_ne]; omega
 have ht3 : (((t.length : Int) + 1) % 3 == 1) = true := by rw [beq_iff_eq]; omega
 have HM : Hid (t.length % 3 = 0) := hD h3
 obtain ⟨i0, hi, hz0, hz1, hz2⟩ := info_parts infoR
 have HI := hD hi
 have HZ0 := hD hz0
 have HZ1 := hD hz1
 have HZ2 := hD hz2
 clear hi hz0 hz1 hz2 hlen h3
 clear hg
 go_enter Tryz.func73, Tryz.ntmps73
 go_wp2_with fail
 refine HL.out.mono ?_
 rintro e w1 ⟨⟨A, c, rfl, r1, hc, hcm⟩, b1⟩
 have B1 := hD (bon B0.out b1)
 have HR1 := hD (HR.out.below b1)
 obtain ⟨g, o, rfl, hgl, hcc⟩ := r1.cells (by simp [strC])
 have a0 : w1.cell? ⟨g, o, none⟩ = some (.string ⟨#[98, 97, 116, 99, 104]⟩) := by simpa [strC, wBatch] using hcc 0 _ rfl
 have hn1 := HR1.out.lt
 have HO1 := hD (O3.new w1 (.int .i64 0) (.int .i64 0) (.slice none 0 0) 95)
 have HCC : Hid (∀ (j : Nat) (x : List UInt8), t[j]? = some x → ∀ W, Below w1.heap.size w1 W → W.cell? ⟨g, o + (j + 1), none⟩ = some (.string ⟨x.toArray⟩)) := hD (fun j x hx W hW => (hW.cell (p := ⟨g, o + (j + 1), none⟩) hgl).trans (hcc (j + 1) _ (by simp [strC, hx])))
 have e0 : (w1.alloc (.cells #[.int .i64 0, .int .i64 0, .slice none 0 0] 95)).cell? ⟨g, o, none⟩ = some (.string ⟨#[98, 97, 116, 99, 104]⟩) := ((below_new w1 _).cell (p := ⟨g, o, none⟩) hgl).trans a0
 have HO2 := hD (O3.new w1 (.int .i64 1) (.int .i64 0) (.slice none 0 0) 95)
 have B2 : Hid (Below w1.heap.size w1 (w1.alloc (.cells #[.int .i64 1, .int .i64 0, .slice none 0 0] 95))) := hD (below_new w1 _)
 clear b1 r1 hcc
 simp only [List.length_cons]
 go_wp2_with fail
 generalize w1.alloc (.cells #[.int .i64 1, .int .i64 0, .slice none 0 0] 95) = w2 at B2 HO2 ⊢
 have hz2 := HO2.out.lt
 go_loopw [7] (fun i wr => ∃ (k m : Nat) (A3 : Option Addr) (c3 : Nat) (done : List Rq), i = .int .i64 (m : Nat) ∧ m = 1 + 3 * k ∧ 3 * k ≤ t.length ∧ done.length = k ∧ en = ⟨1, 0, done ++ tripR (t.drop (3 * k))⟩ ∧ (∀ r ∈ done, I64 r.client ∧ I64 r.number ∧ r.op.length ≤ 200) ∧
     O3 wr w1.heap.size (.int .i64 1) (.int .i64 0) (.slice A3 done.length c3) ∧ wr.ownsRow (w1.heap.size + 1) 133 3 (.slice A3 done.length c3) done.length (done.flatMap rqC) ∧ Below w1.heap.size w1 wr ∧ w1.heap.size + 1 ≤ wr.heap.size)
     (fun i _ => t.length + 1 - (intOf i).toNat)
 case atStart => exact ⟨0, 1, none, 0, [], rfl, rfl, by omega, rfl, by rw [HEq.out]; simp, by simp, HO2.out, World.ownsRow_nil _ _ _ _, B2.out, by omega⟩
 case round =>
  obtain ⟨k, m, A3, c3, done, rfl, hm, hk, hdl, hre, hdn, ho3, hown, hb, hge⟩ := hrel
  have HRe := hD hre
  have HDn := hD hdn
  have HO := hD ho3
  have HOwn := hD hown
  have HB := hD hb
  have HM3 := HM.out
  clear hre hdn ho3 hown hb
  by_cases hlt : 3 * k < t.length
  · have h2 : 3 * k + 2 < t.length := by omega
    obtain ⟨a, ha⟩ : ∃ a, t[3 * k]? = some a := ⟨_, List.getElem?_eq_getElem (by omega)⟩
    obtain ⟨b, hb⟩ : ∃ b, t[3 * k + 1]? = some b := ⟨_, List.getElem?_eq_getElem (by omega)⟩
    obtain ⟨d, hd⟩ : ∃ d, t[3 * k + 2]? = some d := ⟨_, List.getElem?_eq_getElem (by omega)⟩
    have hdrop : t.drop (3 * k) = a :: b :: d :: t.drop (3 * (k + 1)) := by
     have g0 := List.drop_eq_getElem_cons (l := t) (i := 3 * k) (by omega)
     have g1 := List.drop_eq_getElem_cons (l := t) (i := 3 * k + 1) (by omega)
     have g2 := List.drop_eq_getElem_cons (l := t) (i := 3 * k + 2) (by omega)
     rw [List.getElem?_eq_getElem (by omega)] at ha hb hd
     simp only [Option.some.injEq] at ha hb hd
     rw [g0, g1, g2, ha, hb, hd, show 3 * k + 2 + 1 = 3 * (k + 1) from by omega]
    have hal := HLen.out a (List.mem_of_getElem? ha)
    have hbl := HLen.out b (List.mem_of_getElem? hb)
    have hdl2 := HLen.out d (List.mem_of_getElem? hd)
    have HNum : Hid (∀ (x : List UInt8) (W : World), x.length ≤ 200 → Below wr.heap.size wr W → Calls Tryz.prog 103 #[.string ⟨x.toArray⟩] W fun e w' => e = .returned (.int .i64 (numR x)) ∧ Below wr.heap.size wr w') := hD (fun x W hx hW => (number_any ⟨x.toArray⟩ W (by rw [size_mk]; omega)).mono fun _ _ ⟨x, y⟩ => ⟨x, bon hW y⟩)
    have HC : Hid (∀ W, Below wr.heap.size wr W → W.cell? ⟨g, o + m, none⟩ = some (.string ⟨a.toArray⟩) ∧ W.cell? ⟨g, o + (m + 1), none⟩ = some (.string ⟨b.toArray⟩) ∧ W.cell? ⟨g, o + (m + 2), none⟩ = some (.string ⟨d.toArray⟩) ∧ W.cell? ⟨w1.heap.size, 2, none⟩ = some (.slice A3 done.length c3)) := hD (fun W hW => by
     have hW1 := bon HB.out hW
     refine ⟨?_, ?_, ?_, (HO.out.below hW).c2⟩
     · have := HCC.out (3 * k) a ha W hW1; rwa [show 3 * k + 1 = m from by omega] at this
     · have := HCC.out (3 * k + 1) b hb W hW1; rwa [show 3 * k + 1 + 1 = m + 1 from by omega] at this
     · have := HCC.out (3 * k + 2) d hd W hW1; rwa [show 3 * k + 2 + 1 = m + 2 from by omega] at this)
    have hob : some w1.heap.size ≠ (Value.slice A3 done.length c3).ownBlock := by
     intro h0
     have := (HOwn.out.lt w1.heap.size h0.symm).1
     omega
    have hgb : some g ≠ (Value.slice A3 done.length c3).ownBlock := by
     intro h0
     have := (HOwn.out.lt g h0.symm).1
     omega
    have HCg : Hid (∀ W w3, Below wr.heap.size wr W → W.grownBy w3 (Value.slice A3 done.length c3).ownBlock → w3.cell? ⟨g, o + m, none⟩ = some (.string ⟨a.toArray⟩) ∧ w3.cell? ⟨g, o + (m + 1), none⟩ = some (.string ⟨b.toArray⟩) ∧ w3.cell? ⟨g, o + (m + 2), none⟩ = some (.string ⟨d.toArray⟩) ∧ w3.cell? ⟨w1.heap.size, 2, none⟩ = some (.slice A3 done.length c3)) := hD (fun W w3 hW hg => by
     have hgW : g < W.heap.size := Nat.lt_of_lt_of_le hgl (Nat.le_trans (by omega) hW.size)
     have hoW : w1.heap.size < W.heap.size := Nat.lt_of_lt_of_le (by omega) hW.size
     rw [hg.cell_far _ hgW hgb, hg.cell_far _ hgW hgb, hg.cell_far _ hgW hgb, hg.cell_far _ hoW hob]
     exact HC.out W hW)
    have HOW : Hid (∀ W, Below wr.heap.size wr W → W.ownsRow (w1.heap.size + 1) 133 3 (.slice A3 done.length c3) done.length (done.flatMap rqC)) := hD (fun W hW => ownsRow_below HOwn.out hW)
    have H0 : Below wr.heap.size wr wr := Below.refl _ _
    have k0 : (0 : Int) ≤ (m : Int) := by omega
    have k1 : (m : Int) < (t.length : Int) + 1 := by omega
    have k2 : (m : Int) + 1 < (t.length : Int) + 1 := by omega
    have k3 : (m : Int) + 2 < (t.length : Int) + 1 := by omega
    have k4 : m + 2 ≤ 26 := by omega
    have n1 : m < t.length + 1 := by omega
    have n2 : m + 1 < t.length + 1 := by omega
    have n3 : m + 2 < t.length + 1 := by omega
    have j1 : (0 : Int) ≤ (m : Int) + 1 := by omega
    have j2 : (0 : Int) ≤ (m : Int) + 2 := by omega
    have w8 : IntKind.i64.wrap ((m : Int) + 1) = (m : Int) + 1 := IntWalk.i64_in _ (by omega)
    have w9 : IntKind.i64.wrap ((m : Int) + 2) = (m : Int) + 2 := IntWalk.i64_in _ (by omega)
    have u8 : ((m : Int) + 1).toNat = m + 1 := by omega
    have u9 : ((m : Int) + 2).toNat = m + 2 := by omega
    have HMk := hD hm
    have HDl := hD hdl
    have hd9 : done.length ≤ 9 := by omega
    clear hm hdl
    clear ha hb hd
    have HRe2 : Hid (en = ⟨1, 0, (done ++ [(⟨numR a, numR b, d⟩ : Rq)]) ++ tripR (t.drop (3 * (k + 1)))⟩) := hD (by rw [HRe.out, hdrop]; simp [tripR])
    clear hdrop
    have HC3 : Hid (∀ W, Below wr.heap.size wr W → W.cell? ⟨g, o + m, none⟩ = some (.string ⟨a.toArray⟩) ∧ W.cell? ⟨g, o + (m + 1), none⟩ = some (.string ⟨b.toArray⟩) ∧ W.cell? ⟨g, o + (m + 2), none⟩ = some (.string ⟨d.toArray⟩)) := hD (fun W hW => ⟨(HC.out W hW).1, (HC.out W hW).2.1, (HC.out W hW).2.2.1⟩)
    have HCg3 : Hid (∀ W w3, Below wr.heap.size wr W → W.grownBy w3 (Value.slice A3 done.length c3).ownBlock → w3.cell? ⟨g, o + m, none⟩ = some (.string ⟨a.toArray⟩) ∧ w3.cell? ⟨g, o + (m + 1), none⟩ = some (.string ⟨b.toArray⟩) ∧ w3.cell? ⟨g, o + (m + 2), none⟩ = some (.string ⟨d.toArray⟩)) := hD (fun W w3 hW hg => ⟨(HCg.out W w3 hW hg).1, (HCg.out W w3 hW hg).2.1, (HCg.out W w3 hW hg).2.2.1⟩)
    have hgl' : g ≠ w1.heap.size := by omega
    have HCs : Hid (∀ W w3 v, Below wr.heap.size wr W → W.grownBy w3 (Value.slice A3 done.length c3).ownBlock → (w3.setCell ⟨w1.heap.size, 2, none⟩ v).cell? ⟨g, o + m, none⟩ = some (.string ⟨a.toArray⟩) ∧ (w3.setCell ⟨w1.heap.size, 2, none⟩ v).cell? ⟨g, o + (m + 1), none⟩ = some (.string ⟨b.toArray⟩) ∧ (w3.setCell ⟨w1.heap.size, 2, none⟩ v).cell? ⟨g, o + (m + 2), none⟩ = some (.string ⟨d.toArray⟩)) := hD (fun W w3 v hW hg => by
     have h9 := HCg3.out W w3 hW hg
     refine ⟨(World.cell?_setCell_other _ _ _ _ ?_).trans h9.1, (World.cell?_setCell_other _ _ _ _ ?_).trans h9.2.1, (World.cell?_setCell_other _ _ _ _ ?_).trans h9.2.2⟩ <;> (intro he; injection he with h1; exact hgl' (by first | exact h1 | exact h1.symm)))
    have x3 := (HC.out wr H0).2.2.2
    clear hgl'
    go_wp2_with fail
    refine wp_region_noPanic ?_
    refine wp_region_held_drew (S := fun W => W.cell? ⟨g, o + m, none⟩ = some (.string ⟨a.toArray⟩) ∧ W.cell? ⟨g, o + (m + 1), none⟩ = some (.string ⟨b.toArray⟩) ∧ W.cell? ⟨g, o + (m + 2), none⟩ = some (.string ⟨d.toArray⟩)) (by kernel_rfl) ?_ (fun hHeld => ?_)
    · try dsimp only
      first | exact HC3.out _ (Below.drew ‹Below wr.heap.size wr _›) | exact HC3.out _ ‹Below wr.heap.size wr _› | exact HC3.out _ (Below.drew (bon ‹Below wr.heap.size wr _› (below_new _ _))) | exact HC3.out _ (bon ‹Below wr.heap.size wr _› (below_new _ _)) | exact HCg3.out _ _ (bon ‹Below wr.heap.size wr _› (below_new _ _)) ‹_› | exact HCs.out _ _ _ (bon ‹Below wr.heap.size wr _› (below_new _ _)) ‹_›
    refine takes [0,2,3,4,5,7,8,9,10,11,13,14,15,16,17] ?_
    refine wpAnyH_ready (rs := [1, 6]) (by kernel_rfl) (by simp) ?_
    refine AllReadyH.cons (o := _) rfl (fun K hK => ?_) ?_
    · go_simp
      refine hK.out _ _ ?_ (fun hHeld => ?_)
      · first | exact HC3.out _ (Below.drew ‹Below wr.heap.size wr _›) | exact HC3.out _ ‹Below wr.heap.size wr _› | exact HC3.out _ (Below.drew (bon ‹Below wr.heap.size wr _› (below_new _ _))) | exact HC3.out _ (bon ‹Below wr.heap.size wr _› (below_new _ _)) | exact HCg3.out _ _ (bon ‹Below wr.heap.size wr _› (below_new _ _)) ‹_› | exact HCs.out _ _ _ (bon ‹Below wr.heap.size wr _› (below_new _ _)) ‹_›
      clear hK K
      try simp only [Act.put,qk1,qk2,qk3]
      refine wpAnyH_ready (rs := [6]) (by kernel_rfl) (by simp) ?_
      refine AllReadyH.cons (o := _) rfl (fun K hK => ?_) ?_
      · go_simp
        go_at_call 103
        refine (HNum.out _ _ (by assumption) (by first | assumption | exact Below.drew ‹Below wr.heap.size wr _›)).mono ?_
        rintro e w2 ⟨rfl, b2⟩
        have x3 := (HC.out _ b2).2.2.2
        go_wp2_with fail
        refine hK.out _ _ ?_ (fun hHeld => ?_)
        · first | exact HC3.out _ (Below.drew ‹Below wr.heap.size wr _›) | exact HC3.out _ ‹Below wr.heap.size wr _› | exact HC3.out _ (Below.drew (bon ‹Below wr.heap.size wr _› (below_new _ _))) | exact HC3.out _ (bon ‹Below wr.heap.size wr _› (below_new _ _)) | exact HCg3.out _ _ (bon ‹Below wr.heap.size wr _› (below_new _ _)) ‹_› | exact HCs.out _ _ _ (bon ‹Below wr.heap.size wr _› (below_new _ _)) ‹_›
        clear hK K
        try simp only [Act.put,qk1,qk2,qk3]
        refine wpAnyH_ready (rs := [12]) (by kernel_rfl) (by simp) ?_
        refine AllReadyH.cons (o := _) rfl (fun K hK => ?_) ?_
        · go_simp
          go_at_call 103
          refine (HNum.out _ _ (by assumption) (by first | assumption | exact Below.drew ‹Below wr.heap.size wr _›)).mono ?_
          rintro e w2 ⟨rfl, b2⟩
          have x3 := (HC.out _ b2).2.2.2
          go_wp2_with fail
          refine hK.out _ _ ?_ (fun hHeld => ?_)
          · first | exact HC3.out _ (Below.drew ‹Below wr.heap.size wr _›) | exact HC3.out _ ‹Below wr.heap.size wr _› | exact HC3.out _ (Below.drew (bon ‹Below wr.heap.size wr _› (below_new _ _))) | exact HC3.out _ (bon ‹Below wr.heap.size wr _› (below_new _ _)) | exact HCg3.out _ _ (bon ‹Below wr.heap.size wr _› (below_new _ _)) ‹_› | exact HCs.out _ _ _ (bon ‹Below wr.heap.size wr _› (below_new _ _)) ‹_›
          clear hK K
          try simp only [Act.put,qk1,qk2,qk3]
          refine takes [18] ?_
          refine wpAnyH_ready (rs := [19]) (by kernel_rfl) (by simp) ?_
          refine AllReadyH.cons (o := _) rfl (fun K hK => ?_) ?_
          · go_simp
            have x3 := (HC.out _ (bon b2 (below_new w2 (.cells #[.int .i64 (numR a), .int .i64 (numR b), .string ⟨d.toArray⟩] 133)))).2.2.2
            refine hK.out _ _ ?_ (fun hHeld => ?_)
            · first | exact HC3.out _ (Below.drew ‹Below wr.heap.size wr _›) | exact HC3.out _ ‹Below wr.heap.size wr _› | exact HC3.out _ (Below.drew (bon ‹Below wr.heap.size wr _› (below_new _ _))) | exact HC3.out _ (bon ‹Below wr.heap.size wr _› (below_new _ _)) | exact HCg3.out _ _ (bon ‹Below wr.heap.size wr _› (below_new _ _)) ‹_› | exact HCs.out _ _ _ (bon ‹Below wr.heap.size wr _› (below_new _ _)) ‹_›
            clear hK K
            try simp only [Act.put,qk1,qk2,qk3]
            refine wpAnyH_ready (rs := [20]) (by kernel_rfl) (by simp) ?_
            refine AllReadyH.cons (o := _) rfl (fun K hK => ?_) ?_
            · (refine step_append_lies _ (by rfl) _ _ _ (by rfl) (w1.heap.size + 1) 133 i0 _ 3 32 Tryz.underlying93 HI.out HZ0.out HZ1.out HZ2.out rfl (by decide) _ _ _ (by rfl) ((HOW.out _ ‹Below wr.heap.size wr _›).alloc _) _ 1 1 [.int .i64 (numR a), .int .i64 (numR b), .string ⟨d.toArray⟩] (by rfl) (by rfl) (World.news_of_block (cs := #[.int .i64 (numR a), .int .i64 (numR b), .string ⟨d.toArray⟩]) (t := 133) (fr := (0, 0)) (heap_alloc_new _ _)) (by simp [Value.oneCell']) (by omega) (by simp [maxLen]; omega) (by omega) (by have hz := b2.size; simp; omega) _ rfl ?_; intro gg cap w3 hown1 hgrow hat hlt3; have HO4 := hD (O3.grown ((HO.out.below b2).alloc _) hgrow hob); have q2 := HO4.out.c2; have qf2 := HO4.out.f2)
              refine hK.out _ _ ?_ (fun hHeld => ?_)
              · first | exact HC3.out _ (Below.drew ‹Below wr.heap.size wr _›) | exact HC3.out _ ‹Below wr.heap.size wr _› | exact HC3.out _ (Below.drew (bon ‹Below wr.heap.size wr _› (below_new _ _))) | exact HC3.out _ (bon ‹Below wr.heap.size wr _› (below_new _ _)) | exact HCg3.out _ _ (bon ‹Below wr.heap.size wr _› (below_new _ _)) ‹_› | exact HCs.out _ _ _ (bon ‹Below wr.heap.size wr _› (below_new _ _)) ‹_›
              clear hK K
              try simp only [Act.put,qk1]
              refine takes [21] ?_
              refine wpAnyH_ready (rs := [22]) (by kernel_rfl) (by simp) ?_
              refine AllReadyH.cons (o := _) rfl (fun K hK => ?_) ?_
              · go_simp
                refine hK.out _ _ ?_ (fun hHeld => ?_)
                · first | exact HC3.out _ (Below.drew ‹Below wr.heap.size wr _›) | exact HC3.out _ ‹Below wr.heap.size wr _› | exact HC3.out _ (Below.drew (bon ‹Below wr.heap.size wr _› (below_new _ _))) | exact HC3.out _ (bon ‹Below wr.heap.size wr _› (below_new _ _)) | exact HCg3.out _ _ (bon ‹Below wr.heap.size wr _› (below_new _ _)) ‹_› | exact HCs.out _ _ _ (bon ‹Below wr.heap.size wr _› (below_new _ _)) ‹_›
                clear hK K
                try simp only [Act.put,qk1,qk2,qk3]
                refine wpAnyH_done (by kernel_rfl) ?_ _
                refine NoPanic.normal ?_
                have HOwn4 := hD hown1
                have HG4 := hD hgrow
                clear hown1 hgrow hat
                have hbs := b2.size
                have hbg : Below w1.heap.size w1 w3 := below_grown ((bon HB.out b2).alloc (by omega) _) (by simp; omega) HG4.out (fun g hg => by have := (HOwn.out.lt g hg).1; omega)
                have HB5 := hD (hbg.setCell (p := ⟨w1.heap.size, 2, none⟩) (Nat.le_refl _) (.slice (some ⟨gg, 0, none⟩) (done.length + 1) cap))
                have HO5 := hD (HO4.out.set2 (.slice (some ⟨gg, 0, none⟩) (done.length + 1) cap))
                have hz5 : w2.heap.size + 1 ≤ w3.heap.size := by have := HG4.out.size; simpa using this
                have HOwn5 : Hid ((w3.setCell ⟨w1.heap.size, 2, none⟩ (.slice (some ⟨gg, 0, none⟩) (done.length + 1) cap)).ownsRow (w1.heap.size + 1) 133 3 (.slice (some ⟨gg, 0, none⟩) (done.length + 1) cap) (done.length + 1) ((done ++ [(⟨numR a, numR b, d⟩ : Rq)]).flatMap rqC)) := hD (ownsRow_far (by have h9 := HOwn4.out; simpa [rqC] using h9) _ _ (by simp) (by show w1.heap.size < w1.heap.size + 1; omega))
                have hlen9 : (done ++ [(⟨numR a, numR b, d⟩ : Rq)]).length = done.length + 1 := by simp
                have HDn2 : Hid (∀ r ∈ done ++ [(⟨numR a, numR b, d⟩ : Rq)], I64 r.client ∧ I64 r.number ∧ r.op.length ≤ 200) := hD (fun q hq => by
                 simp only [List.mem_append, List.mem_cons, List.not_mem_nil, or_false] at hq
                 rcases hq with hq | rfl
                 · exact HDn.out q hq
                 · exact ⟨numR_i64 a, numR_i64 b, hdl2⟩)
                clear hbg hHeld q2 qf2
                go_wp2_with fail
                go_roundw
                case rel => exact ⟨k + 1, m + 3, some ⟨gg, 0, none⟩, cap, _, by go_num, by have := HMk.out; omega, by omega, by rw [hlen9, HDl.out], HRe2.out, HDn2.out, by rw [hlen9]; exact HO5.out, by rw [hlen9]; exact HOwn5.out, HB5.out, by simp; omega⟩
                case measure => have := HMk.out; simp [intOf]; omega
              exact AllReadyH.nil
            exact AllReadyH.nil
          exact AllReadyH.nil
        exact AllReadyH.nil
      exact AllReadyH.nil
    refine AllReadyH.cons (o := _) rfl (fun K hK => ?_) ?_
    · go_simp
      go_at_call 103
      refine (HNum.out _ _ (by assumption) (by first | assumption | exact Below.drew ‹Below wr.heap.size wr _›)).mono ?_
      rintro e w2 ⟨rfl, b2⟩
      have x3 := (HC.out _ b2).2.2.2
      go_wp2_with fail
      refine hK.out _ _ ?_ (fun hHeld => ?_)
      · first | exact HC3.out _ (Below.drew ‹Below wr.heap.size wr _›) | exact HC3.out _ ‹Below wr.heap.size wr _› | exact HC3.out _ (Below.drew (bon ‹Below wr.heap.size wr _› (below_new _ _))) | exact HC3.out _ (bon ‹Below wr.heap.size wr _› (below_new _ _)) | exact HCg3.out _ _ (bon ‹Below wr.heap.size wr _› (below_new _ _)) ‹_› | exact HCs.out _ _ _ (bon ‹Below wr.heap.size wr _› (below_new _ _)) ‹_›
      clear hK K
      try simp only [Act.put,qk1,qk2,qk3]
      refine wpAnyH_ready (rs := [1, 12]) (by kernel_rfl) (by simp) ?_
      refine AllReadyH.cons (o := _) rfl (fun K hK => ?_) ?_
      · go_simp
        refine hK.out _ _ ?_ (fun hHeld => ?_)
        · first | exact HC3.out _ (Below.drew ‹Below wr.heap.size wr _›) | exact HC3.out _ ‹Below wr.heap.size wr _› | exact HC3.out _ (Below.drew (bon ‹Below wr.heap.size wr _› (below_new _ _))) | exact HC3.out _ (bon ‹Below wr.heap.size wr _› (below_new _ _)) | exact HCg3.out _ _ (bon ‹Below wr.heap.size wr _› (below_new _ _)) ‹_› | exact HCs.out _ _ _ (bon ‹Below wr.heap.size wr _› (below_new _ _)) ‹_›
        clear hK K
        try simp only [Act.put,qk1,qk2,qk3]
        refine wpAnyH_ready (rs := [12]) (by kernel_rfl) (by simp) ?_
        refine AllReadyH.cons (o := _) rfl (fun K hK => ?_) ?_
        · go_simp
          go_at_call 103
          refine (HNum.out _ _ (by assumption) (by first | assumption | exact Below.drew ‹Below wr.heap.size wr _›)).mono ?_
          rintro e w2 ⟨rfl, b2⟩
          have x3 := (HC.out _ b2).2.2.2
          go_wp2_with fail
          refine hK.out _ _ ?_ (fun hHeld => ?_)
          · first | exact HC3.out _ (Below.drew ‹Below wr.heap.size wr _›) | exact HC3.out _ ‹Below wr.heap.size wr _› | exact HC3.out _ (Below.drew (bon ‹Below wr.heap.size wr _› (below_new _ _))) | exact HC3.out _ (bon ‹Below wr.heap.size wr _› (below_new _ _)) | exact HCg3.out _ _ (bon ‹Below wr.heap.size wr _› (below_new _ _)) ‹_› | exact HCs.out _ _ _ (bon ‹Below wr.heap.size wr _› (below_new _ _)) ‹_›
          clear hK K
          try simp only [Act.put,qk1,qk2,qk3]
          refine takes [18] ?_
          refine wpAnyH_ready (rs := [19]) (by kernel_rfl) (by simp) ?_
          refine AllReadyH.cons (o := _) rfl (fun K hK => ?_) ?_
          · go_simp
            have x3 := (HC.out _ (bon b2 (below_new w2 (.cells #[.int .i64 (numR a), .int .i64 (numR b), .string ⟨d.toArray⟩] 133)))).2.2.2
            refine hK.out _ _ ?_ (fun hHeld => ?_)
            · first | exact HC3.out _ (Below.drew ‹Below wr.heap.size wr _›) | exact HC3.out _ ‹Below wr.heap.size wr _› | exact HC3.out _ (Below.drew (bon ‹Below wr.heap.size wr _› (below_new _ _))) | exact HC3.out _ (bon ‹Below wr.heap.size wr _› (below_new _ _)) | exact HCg3.out _ _ (bon ‹Below wr.heap.size wr _› (below_new _ _)) ‹_› | exact HCs.out _ _ _ (bon ‹Below wr.heap.size wr _› (below_new _ _)) ‹_›
            clear hK K
            try simp only [Act.put,qk1,qk2,qk3]
            refine wpAnyH_ready (rs := [20]) (by kernel_rfl) (by simp) ?_
            refine AllReadyH.cons (o := _) rfl (fun K hK => ?_) ?_
            · (refine step_append_lies _ (by rfl) _ _ _ (by rfl) (w1.heap.size + 1) 133 i0 _ 3 32 Tryz.underlying93 HI.out HZ0.out HZ1.out HZ2.out rfl (by decide) _ _ _ (by rfl) ((HOW.out _ ‹Below wr.heap.size wr _›).alloc _) _ 1 1 [.int .i64 (numR a), .int .i64 (numR b), .string ⟨d.toArray⟩] (by rfl) (by rfl) (World.news_of_block (cs := #[.int .i64 (numR a), .int .i64 (numR b), .string ⟨d.toArray⟩]) (t := 133) (fr := (0, 0)) (heap_alloc_new _ _)) (by simp [Value.oneCell']) (by omega) (by simp [maxLen]; omega) (by omega) (by have hz := b2.size; simp; omega) _ rfl ?_; intro gg cap w3 hown1 hgrow hat hlt3; have HO4 := hD (O3.grown ((HO.out.below b2).alloc _) hgrow hob); have q2 := HO4.out.c2; have qf2 := HO4.out.f2)
              refine hK.out _ _ ?_ (fun hHeld => ?_)
              · first | exact HC3.out _ (Below.drew ‹Below wr.heap.size wr _›) | exact HC3.out _ ‹Below wr.heap.size wr _› | exact HC3.out _ (Below.drew (bon ‹Below wr.heap.size wr _› (below_new _ _))) | exact HC3.out _ (bon ‹Below wr.heap.size wr _› (below_new _ _)) | exact HCg3.out _ _ (bon ‹Below wr.heap.size wr _› (below_new _ _)) ‹_› | exact HCs.out _ _ _ (bon ‹Below wr.heap.size wr _› (below_new _ _)) ‹_›
              clear hK K
              try simp only [Act.put,qk1]
              refine takes [21] ?_
              refine wpAnyH_ready (rs := [22]) (by kernel_rfl) (by simp) ?_
              refine AllReadyH.cons (o := _) rfl (fun K hK => ?_) ?_
              · go_simp
                refine hK.out _ _ ?_ (fun hHeld => ?_)
                · first | exact HC3.out _ (Below.drew ‹Below wr.heap.size wr _›) | exact HC3.out _ ‹Below wr.heap.size wr _› | exact HC3.out _ (Below.drew (bon ‹Below wr.heap.size wr _› (below_new _ _))) | exact HC3.out _ (bon ‹Below wr.heap.size wr _› (below_new _ _)) | exact HCg3.out _ _ (bon ‹Below wr.heap.size wr _› (below_new _ _)) ‹_› | exact HCs.out _ _ _ (bon ‹Below wr.heap.size wr _› (below_new _ _)) ‹_›
                clear hK K
                try simp only [Act.put,qk1,qk2,qk3]
                refine wpAnyH_done (by kernel_rfl) ?_ _
                refine NoPanic.normal ?_
                have HOwn4 := hD hown1
                have HG4 := hD hgrow
                clear hown1 hgrow hat
                have hbs := b2.size
                have hbg : Below w1.heap.size w1 w3 := below_grown ((bon HB.out b2).alloc (by omega) _) (by simp; omega) HG4.out (fun g hg => by have := (HOwn.out.lt g hg).1; omega)
                have HB5 := hD (hbg.setCell (p := ⟨w1.heap.size, 2, none⟩) (Nat.le_refl _) (.slice (some ⟨gg, 0, none⟩) (done.length + 1) cap))
                have HO5 := hD (HO4.out.set2 (.slice (some ⟨gg, 0, none⟩) (done.length + 1) cap))
                have hz5 : w2.heap.size + 1 ≤ w3.heap.size := by have := HG4.out.size; simpa using this
                have HOwn5 : Hid ((w3.setCell ⟨w1.heap.size, 2, none⟩ (.slice (some ⟨gg, 0, none⟩) (done.length + 1) cap)).ownsRow (w1.heap.size + 1) 133 3 (.slice (some ⟨gg, 0, none⟩) (done.length + 1) cap) (done.length + 1) ((done ++ [(⟨numR a, numR b, d⟩ : Rq)]).flatMap rqC)) := hD (ownsRow_far (by have h9 := HOwn4.out; simpa [rqC] using h9) _ _ (by simp) (by show w1.heap.size < w1.heap.size + 1; omega))
                have hlen9 : (done ++ [(⟨numR a, numR b, d⟩ : Rq)]).length = done.length + 1 := by simp
                have HDn2 : Hid (∀ r ∈ done ++ [(⟨numR a, numR b, d⟩ : Rq)], I64 r.client ∧ I64 r.number ∧ r.op.length ≤ 200) := hD (fun q hq => by
                 simp only [List.mem_append, List.mem_cons, List.not_mem_nil, or_false] at hq
                 rcases hq with hq | rfl
                 · exact HDn.out q hq
                 · exact ⟨numR_i64 a, numR_i64 b, hdl2⟩)
                clear hbg hHeld q2 qf2
                go_wp2_with fail
                go_roundw
                case rel => exact ⟨k + 1, m + 3, some ⟨gg, 0, none⟩, cap, _, by go_num, by have := HMk.out; omega, by omega, by rw [hlen9, HDl.out], HRe2.out, HDn2.out, by rw [hlen9]; exact HO5.out, by rw [hlen9]; exact HOwn5.out, HB5.out, by simp; omega⟩
                case measure => have := HMk.out; simp [intOf]; omega
              exact AllReadyH.nil
            exact AllReadyH.nil
          exact AllReadyH.nil
        exact AllReadyH.nil
      refine AllReadyH.cons (o := _) rfl (fun K hK => ?_) ?_
      · go_simp
        go_at_call 103
        refine (HNum.out _ _ (by assumption) (by first | assumption | exact Below.drew ‹Below wr.heap.size wr _›)).mono ?_
        rintro e w2 ⟨rfl, b2⟩
        have x3 := (HC.out _ b2).2.2.2
        go_wp2_with fail
        refine hK.out _ _ ?_ (fun hHeld => ?_)
        · first | exact HC3.out _ (Below.drew ‹Below wr.heap.size wr _›) | exact HC3.out _ ‹Below wr.heap.size wr _› | exact HC3.out _ (Below.drew (bon ‹Below wr.heap.size wr _› (below_new _ _))) | exact HC3.out _ (bon ‹Below wr.heap.size wr _› (below_new _ _)) | exact HCg3.out _ _ (bon ‹Below wr.heap.size wr _› (below_new _ _)) ‹_› | exact HCs.out _ _ _ (bon ‹Below wr.heap.size wr _› (below_new _ _)) ‹_›
        clear hK K
        try simp only [Act.put,qk1,qk2,qk3]
        refine takes [18] ?_
        refine wpAnyH_ready (rs := [1, 19]) (by kernel_rfl) (by simp) ?_
        refine AllReadyH.cons (o := _) rfl (fun K hK => ?_) ?_
        · go_simp
          refine hK.out _ _ ?_ (fun hHeld => ?_)
          · first | exact HC3.out _ (Below.drew ‹Below wr.heap.size wr _›) | exact HC3.out _ ‹Below wr.heap.size wr _› | exact HC3.out _ (Below.drew (bon ‹Below wr.heap.size wr _› (below_new _ _))) | exact HC3.out _ (bon ‹Below wr.heap.size wr _› (below_new _ _)) | exact HCg3.out _ _ (bon ‹Below wr.heap.size wr _› (below_new _ _)) ‹_› | exact HCs.out _ _ _ (bon ‹Below wr.heap.size wr _› (below_new _ _)) ‹_›
          clear hK K
          try simp only [Act.put,qk1,qk2,qk3]
          refine wpAnyH_ready (rs := [19]) (by kernel_rfl) (by simp) ?_
          refine AllReadyH.cons (o := _) rfl (fun K hK => ?_) ?_
          · go_simp
            have x3 := (HC.out _ (bon b2 (below_new w2 (.cells #[.int .i64 (numR a), .int .i64 (numR b), .string ⟨d.toArray⟩] 133)))).2.2.2
            refine hK.out _ _ ?_ (fun hHeld => ?_)
            · first | exact HC3.out _ (Below.drew ‹Below wr.heap.size wr _›) | exact HC3.out _ ‹Below wr.heap.size wr _› | exact HC3.out _ (Below.drew (bon ‹Below wr.heap.size wr _› (below_new _ _))) | exact HC3.out _ (bon ‹Below wr.heap.size wr _› (below_new _ _)) | exact HCg3.out _ _ (bon ‹Below wr.heap.size wr _› (below_new _ _)) ‹_› | exact HCs.out _ _ _ (bon ‹Below wr.heap.size wr _› (below_new _ _)) ‹_›
            clear hK K
            try simp only [Act.put,qk1,qk2,qk3]
            refine wpAnyH_ready (rs := [20]) (by kernel_rfl) (by simp) ?_
            refine AllReadyH.cons (o := _) rfl (fun K hK => ?_) ?_
            · (refine step_append_lies _ (by rfl) _ _ _ (by rfl) (w1.heap.size + 1) 133 i0 _ 3 32 Tryz.underlying93 HI.out HZ0.out HZ1.out HZ2.out rfl (by decide) _ _ _ (by rfl) ((HOW.out _ ‹Below wr.heap.size wr _›).alloc _) _ 1 1 [.int .i64 (numR a), .int .i64 (numR b), .string ⟨d.toArray⟩] (by rfl) (by rfl) (World.news_of_block (cs := #[.int .i64 (numR a), .int .i64 (numR b), .string ⟨d.toArray⟩]) (t := 133) (fr := (0, 0)) (heap_alloc_new _ _)) (by simp [Value.oneCell']) (by omega) (by simp [maxLen]; omega) (by omega) (by have hz := b2.size; simp; omega) _ rfl ?_; intro gg cap w3 hown1 hgrow hat hlt3; have HO4 := hD (O3.grown ((HO.out.below b2).alloc _) hgrow hob); have q2 := HO4.out.c2; have qf2 := HO4.out.f2)
              refine hK.out _ _ ?_ (fun hHeld => ?_)
              · first | exact HC3.out _ (Below.drew ‹Below wr.heap.size wr _›) | exact HC3.out _ ‹Below wr.heap.size wr _› | exact HC3.out _ (Below.drew (bon ‹Below wr.heap.size wr _› (below_new _ _))) | exact HC3.out _ (bon ‹Below wr.heap.size wr _› (below_new _ _)) | exact HCg3.out _ _ (bon ‹Below wr.heap.size wr _› (below_new _ _)) ‹_› | exact HCs.out _ _ _ (bon ‹Below wr.heap.size wr _› (below_new _ _)) ‹_›
              clear hK K
              try simp only [Act.put,qk1]
              refine takes [21] ?_
              refine wpAnyH_ready (rs := [22]) (by kernel_rfl) (by simp) ?_
              refine AllReadyH.cons (o := _) rfl (fun K hK => ?_) ?_
              · go_simp
                refine hK.out _ _ ?_ (fun hHeld => ?_)
                · first | exact HC3.out _ (Below.drew ‹Below wr.heap.size wr _›) | exact HC3.out _ ‹Below wr.heap.size wr _› | exact HC3.out _ (Below.drew (bon ‹Below wr.heap.size wr _› (below_new _ _))) | exact HC3.out _ (bon ‹Below wr.heap.size wr _› (below_new _ _)) | exact HCg3.out _ _ (bon ‹Below wr.heap.size wr _› (below_new _ _)) ‹_› | exact HCs.out _ _ _ (bon ‹Below wr.heap.size wr _› (below_new _ _)) ‹_›
                clear hK K
                try simp only [Act.put,qk1,qk2,qk3]
                refine wpAnyH_done (by kernel_rfl) ?_ _
                refine NoPanic.normal ?_
                have HOwn4 := hD hown1
                have HG4 := hD hgrow
                clear hown1 hgrow hat
                have hbs := b2.size
                have hbg : Below w1.heap.size w1 w3 := below_grown ((bon HB.out b2).alloc (by omega) _) (by simp; omega) HG4.out (fun g hg => by have := (HOwn.out.lt g hg).1; omega)
                have HB5 := hD (hbg.setCell (p := ⟨w1.heap.size, 2, none⟩) (Nat.le_refl _) (.slice (some ⟨gg, 0, none⟩) (done.length + 1) cap))
                have HO5 := hD (HO4.out.set2 (.slice (some ⟨gg, 0, none⟩) (done.length + 1) cap))
                have hz5 : w2.heap.size + 1 ≤ w3.heap.size := by have := HG4.out.size; simpa using this
                have HOwn5 : Hid ((w3.setCell ⟨w1.heap.size, 2, none⟩ (.slice (some ⟨gg, 0, none⟩) (done.length + 1) cap)).ownsRow (w1.heap.size + 1) 133 3 (.slice (some ⟨gg, 0, none⟩) (done.length + 1) cap) (done.length + 1) ((done ++ [(⟨numR a, numR b, d⟩ : Rq)]).flatMap rqC)) := hD (ownsRow_far (by have h9 := HOwn4.out; simpa [rqC] using h9) _ _ (by simp) (by show w1.heap.size < w1.heap.size + 1; omega))
                have hlen9 : (done ++ [(⟨numR a, numR b, d⟩ : Rq)]).length = done.length + 1 := by simp
                have HDn2 : Hid (∀ r ∈ done ++ [(⟨numR a, numR b, d⟩ : Rq)], I64 r.client ∧ I64 r.number ∧ r.op.length ≤ 200) := hD (fun q hq => by
                 simp only [List.mem_append, List.mem_cons, List.not_mem_nil, or_false] at hq
                 rcases hq with hq | rfl
                 · exact HDn.out q hq
                 · exact ⟨numR_i64 a, numR_i64 b, hdl2⟩)
                clear hbg hHeld q2 qf2
                go_wp2_with fail
                go_roundw
                case rel => exact ⟨k + 1, m + 3, some ⟨gg, 0, none⟩, cap, _, by go_num, by have := HMk.out; omega, by omega, by rw [hlen9, HDl.out], HRe2.out, HDn2.out, by rw [hlen9]; exact HO5.out, by rw [hlen9]; exact HOwn5.out, HB5.out, by simp; omega⟩
                case measure => have := HMk.out; simp [intOf]; omega
              exact AllReadyH.nil
            exact AllReadyH.nil
          exact AllReadyH.nil
        refine AllReadyH.cons (o := _) rfl (fun K hK => ?_) ?_
        · go_simp
          have x3 := (HC.out _ (bon b2 (below_new w2 (.cells #[.int .i64 (numR a), .int .i64 (numR b), .string ⟨d.toArray⟩] 133)))).2.2.2
          refine hK.out _ _ ?_ (fun hHeld => ?_)
          · first | exact HC3.out _ (Below.drew ‹Below wr.heap.size wr _›) | exact HC3.out _ ‹Below wr.heap.size wr _› | exact HC3.out _ (Below.drew (bon ‹Below wr.heap.size wr _› (below_new _ _))) | exact HC3.out _ (bon ‹Below wr.heap.size wr _› (below_new _ _)) | exact HCg3.out _ _ (bon ‹Below wr.heap.size wr _› (below_new _ _)) ‹_› | exact HCs.out _ _ _ (bon ‹Below wr.heap.size wr _› (below_new _ _)) ‹_›
          clear hK K
          try simp only [Act.put,qk1,qk2,qk3]
          refine wpAnyH_ready (rs := [1]) (by kernel_rfl) (by simp) ?_
          refine AllReadyH.cons (o := _) rfl (fun K hK => ?_) ?_
          · go_simp
            refine hK.out _ _ ?_ (fun hHeld => ?_)
            · first | exact HC3.out _ (Below.drew ‹Below wr.heap.size wr _›) | exact HC3.out _ ‹Below wr.heap.size wr _› | exact HC3.out _ (Below.drew (bon ‹Below wr.heap.size wr _› (below_new _ _))) | exact HC3.out _ (bon ‹Below wr.heap.size wr _› (below_new _ _)) | exact HCg3.out _ _ (bon ‹Below wr.heap.size wr _› (below_new _ _)) ‹_› | exact HCs.out _ _ _ (bon ‹Below wr.heap.size wr _› (below_new _ _)) ‹_›
            clear hK K
            try simp only [Act.put,qk1,qk2,qk3]
            refine wpAnyH_ready (rs := [20]) (by kernel_rfl) (by simp) ?_
            refine AllReadyH.cons (o := _) rfl (fun K hK => ?_) ?_
            · (refine step_append_lies _ (by rfl) _ _ _ (by rfl) (w1.heap.size + 1) 133 i0 _ 3 32 Tryz.underlying93 HI.out HZ0.out HZ1.out HZ2.out rfl (by decide) _ _ _ (by rfl) ((HOW.out _ ‹Below wr.heap.size wr _›).alloc _) _ 1 1 [.int .i64 (numR a), .int .i64 (numR b), .string ⟨d.toArray⟩] (by rfl) (by rfl) (World.news_of_block (cs := #[.int .i64 (numR a), .int .i64 (numR b), .string ⟨d.toArray⟩]) (t := 133) (fr := (0, 0)) (heap_alloc_new _ _)) (by simp [Value.oneCell']) (by omega) (by simp [maxLen]; omega) (by omega) (by have hz := b2.size; simp; omega) _ rfl ?_; intro gg cap w3 hown1 hgrow hat hlt3; have HO4 := hD (O3.grown ((HO.out.below b2).alloc _) hgrow hob); have q2 := HO4.out.c2; have qf2 := HO4.out.f2)
              refine hK.out _ _ ?_ (fun hHeld => ?_)
              · first | exact HC3.out _ (Below.drew ‹Below wr.heap.size wr _›) | exact HC3.out _ ‹Below wr.heap.size wr _› | exact HC3.out _ (Below.drew (bon ‹Below wr.heap.size wr _› (below_new _ _))) | exact HC3.out _ (bon ‹Below wr.heap.size wr _› (below_new _ _)) | exact HCg3.out _ _ (bon ‹Below wr.heap.size wr _› (below_new _ _)) ‹_› | exact HCs.out _ _ _ (bon ‹Below wr.heap.size wr _› (below_new _ _)) ‹_›
              clear hK K
              try simp only [Act.put,qk1]
              refine takes [21] ?_
              refine wpAnyH_ready (rs := [22]) (by kernel_rfl) (by simp) ?_
              refine AllReadyH.cons (o := _) rfl (fun K hK => ?_) ?_
              · go_simp
                refine hK.out _ _ ?_ (fun hHeld => ?_)
                · first | exact HC3.out _ (Below.drew ‹Below wr.heap.size wr _›) | exact HC3.out _ ‹Below wr.heap.size wr _› | exact HC3.out _ (Below.drew (bon ‹Below wr.heap.size wr _› (below_new _ _))) | exact HC3.out _ (bon ‹Below wr.heap.size wr _› (below_new _ _)) | exact HCg3.out _ _ (bon ‹Below wr.heap.size wr _› (below_new _ _)) ‹_› | exact HCs.out _ _ _ (bon ‹Below wr.heap.size wr _› (below_new _ _)) ‹_›
                clear hK K
                try simp only [Act.put,qk1,qk2,qk3]
                refine wpAnyH_done (by kernel_rfl) ?_ _
                refine NoPanic.normal ?_
                have HOwn4 := hD hown1
                have HG4 := hD hgrow
                clear hown1 hgrow hat
                have hbs := b2.size
                have hbg : Below w1.heap.size w1 w3 := below_grown ((bon HB.out b2).alloc (by omega) _) (by simp; omega) HG4.out (fun g hg => by have := (HOwn.out.lt g hg).1; omega)
                have HB5 := hD (hbg.setCell (p := ⟨w1.heap.size, 2, none⟩) (Nat.le_refl _) (.slice (some ⟨gg, 0, none⟩) (done.length + 1) cap))
                have HO5 := hD (HO4.out.set2 (.slice (some ⟨gg, 0, none⟩) (done.length + 1) cap))
                have hz5 : w2.heap.size + 1 ≤ w3.heap.size := by have := HG4.out.size; simpa using this
                have HOwn5 : Hid ((w3.setCell ⟨w1.heap.size, 2, none⟩ (.slice (some ⟨gg, 0, none⟩) (done.length + 1) cap)).ownsRow (w1.heap.size + 1) 133 3 (.slice (some ⟨gg, 0, none⟩) (done.length + 1) cap) (done.length + 1) ((done ++ [(⟨numR a, numR b, d⟩ : Rq)]).flatMap rqC)) := hD (ownsRow_far (by have h9 := HOwn4.out; simpa [rqC] using h9) _ _ (by simp) (by show w1.heap.size < w1.heap.size + 1; omega))
                have hlen9 : (done ++ [(⟨numR a, numR b, d⟩ : Rq)]).length = done.length + 1 := by simp
                have HDn2 : Hid (∀ r ∈ done ++ [(⟨numR a, numR b, d⟩ : Rq)], I64 r.client ∧ I64 r.number ∧ r.op.length ≤ 200) := hD (fun q hq => by
                 simp only [List.mem_append, List.mem_cons, List.not_mem_nil, or_false] at hq
                 rcases hq with hq | rfl
                 · exact HDn.out q hq
                 · exact ⟨numR_i64 a, numR_i64 b, hdl2⟩)
                clear hbg hHeld q2 qf2
                go_wp2_with fail
                go_roundw
                case rel => exact ⟨k + 1, m + 3, some ⟨gg, 0, none⟩, cap, _, by go_num, by have := HMk.out; omega, by omega, by rw [hlen9, HDl.out], HRe2.out, HDn2.out, by rw [hlen9]; exact HO5.out, by rw [hlen9]; exact HOwn5.out, HB5.out, by simp; omega⟩
                case measure => have := HMk.out; simp [intOf]; omega
              exact AllReadyH.nil
            exact AllReadyH.nil
          exact AllReadyH.nil
        exact AllReadyH.nil
      exact AllReadyH.nil
    exact AllReadyH.nil
  · have hmk : ¬ (m : Int) < (t.length : Int) + 1 := by omega
    have HEn : Hid (en = ⟨1, 0, done⟩) := hD (by rw [HRe.out, List.drop_eq_nil_of_le (by omega), tripR, List.append_nil]; intro _ _ _ _ h; cases h)
    have B3 := hD (bon B1.out HB.out)
    have HR3 := hD (HR1.out.below HB.out)
    have HO3 := hD HO.out
    have hdn := HDn.out
    have HQ3 : Hid (RqIn wr A3 c3 done) := hD ⟨Rd.own HOwn.out, own_cap HOwn.out, own_max HOwn.out, by omega, fun r hr => by have := (hdn r hr).2.2; omega⟩
    have HDl := hD hdl
    clear hdn hm hdl
    obtain ⟨hltx, p0, p1, p2, f0, f1, f2⟩ := HO3.out
    obtain ⟨wx, hwx⟩ : ∃ wx, wx = wr := ⟨_, rfl⟩
    subst hwx
    go_wp2_with fail
    clear p0 p1 p2 f0 f1 f2
    have HVal := refValid_any 1 0 done A3 c3 wx HQ3.out
    by_cases hv : vEn ⟨1, 0, done⟩ = 0
    · rw [hv] at HVal
      refine HVal.mono ?_
      rintro e w3 ⟨rfl, b3⟩
      have B4 := hD (bon B3.out b3)
      have HR4 := hD (HR3.out.below b3)
      have HO4 := hD (HO3.out.below b3)
      have HQ4 := hD (HQ3.out.below b3)
      obtain ⟨hlt4, p0, p1, p2, f0, f1, f2⟩ := HO4.out
      clear b3
      go_wp2_with fail
      have HVl := refValue_any 1 0 done A3 c3 w3 HQ4.out hv
      by_cases hq : valE ⟨1, 0, done⟩ = s
      · rw [hq] at HVl
        refine HVl.mono ?_
        rintro e w4 ⟨rfl, b4⟩
        have B5 := hD (bon B4.out b4)
        have HR5 := hD (HR4.out.below b4)
        have HO5 := hD (HO4.out.below b4)
        have HQ5 := hD (HQ4.out.below b4)
        have HY : Hid (decE s = some ⟨1, 0, done⟩) := hD (by rw [HD.out, HEn.out, if_pos ⟨hv, hq⟩])
        clear b4 p0 p1 p2 f0 f1 f2 hv hq
        obtain ⟨hlt5, p0, p1, p2, f0, f1, f2⟩ := HO5.out
        obtain ⟨hlt6, r0, r1, r2, s0, s1, s2⟩ := HR5.out
        go_wp2_with fail
        refine bodyPost_ret (v := .tuple #[.agg #[.int .i64 (1), .int .i64 (0), .slice A3 done.length c3], .int .i64 0]) (by simp [results, Tryz.results73, go_sem, r0, r1, r2]) rfl (ret_d_some HY.out (((B5.out.setCell (Nat.le_refl _) _).setCell (Nat.le_refl _) _).setCell (Nat.le_refl _) _) rfl ?_)
        exact rqIn_sets HQ5.out (fun a ha hbk => by subst ha; have h9 := (HOwn.out.lt a.block rfl).1; omega) _ _ _
      · have HY : Hid (decE s = none) := hD (by rw [HD.out, HEn.out, if_neg (fun h => hq h.2)])
        have hq1 : (valE ⟨1, 0, done⟩ == s) = false := by simpa using hq
        generalize valE ⟨1, 0, done⟩ = v at HVl hq1 hq
        refine HVl.mono ?_
        rintro e w4 ⟨rfl, b4⟩
        have B5 := hD (bon B4.out b4)
        have HR5 := hD (HR4.out.below b4)
        clear b4 p0 p1 p2 f0 f1 f2 hv hq
        obtain ⟨hlt6, r0, r1, r2, s0, s1, s2⟩ := HR5.out
        go_wp2_with fail
        exact bodyPost_ret (v := .tuple #[.agg #[.int .i64 0, .int .i64 0, .slice none 0 0], .int .i64 2]) (by simp [results, Tryz.results73, go_sem, r0, r1, r2]) rfl (ret_d_none HY.out (((B5.out.setCell (Nat.le_refl _) _).setCell (Nat.le_refl _) _).setCell (Nat.le_refl _) _))
    · have HY : Hid (decE s = none) := hD (by rw [HD.out, HEn.out, if_neg (fun h => hv h.1)])
      generalize vEn ⟨1, 0, done⟩ = v at HVal hv
      have hv1 : (v == 0) = false := by simpa using hv
      have hv2 : (v != 0) = true := by simpa using hv
      refine HVal.mono ?_
      rintro e w3 ⟨rfl, b3⟩
      have B4 := hD (bon B3.out b3)
      have HR4 := hD (HR3.out.below b3)
      clear b3 hv
      obtain ⟨hlt6, r0, r1, r2, s0, s1, s2⟩ := HR4.out
      go_wp2_with fail
      exact bodyPost_ret (v := .tuple #[.agg #[.int .i64 0, .int .i64 0, .slice none 0 0], .int .i64 2]) (by simp [results, Tryz.results73, go_sem, r0, r1, r2]) rfl (ret_d_none HY.out (((B4.out.setCell (Nat.le_refl _) _).setCell (Nat.le_refl _) _).setCell (Nat.le_refl _) _))
open Go.Proofs.YtikpcebhcnjkhaaGreatDoor
open Go.RowKit
theorem refDecode_any (s : List UInt8) (w : World) (hs : s.length ≤ 1048576) : Calls Tryz.prog 73 #[.string ⟨s.toArray⟩] w (RetDec (decE s) w) := by
 cases hg : refStrs s with
 | none => exact refDecode_bad s w hs hg
 | some l =>
  cases l with
  | nil => exact refDecode_nil s w hs hg
  | cons h t =>
   by_cases h1 : h = wFinish
   · subst h1; exact refDecode_finish s t w hs hg
   · by_cases h2 : h = wJoin ∧ t.length = 1
     · obtain ⟨rfl, h2⟩ := h2
       match t, h2 with
       | [x], _ => exact refDecode_join s x w hs hg
     · by_cases h3 : h = wBatch ∧ t.length % 3 = 0
       · obtain ⟨rfl, h3⟩ := h3
         exact refDecode_batch s t w hs hg h3
       · exact refDecode_other s h t w hs hg h1 h2 h3
theorem refDecode_some (s : List UInt8) (w : World) (hs : s.length ≤ 1048576) (x : En) (h : decE s = some x) :
    Calls Tryz.prog 73 #[.string ⟨s.toArray⟩] w fun e w' => ∃ A c, (e = .returned (.tuple #[.agg #[.int .i64 x.kind, .int .i64 x.cfg, .slice A x.rs.length c], .int .i64 0]) ∧ RqIn w' A c x.rs) ∧ Below w.heap.size w w' :=
 (refDecode_any s w hs).mono fun e w' hd => by
  unfold RetDec at hd
  rw [h] at hd
  obtain ⟨hb, A, c, h1, h2⟩ := hd
  exact ⟨A, c, ⟨h1, h2⟩, hb⟩
theorem refDecode_none (s : List UInt8) (w : World) (hs : s.length ≤ 1048576) (h : decE s = none) :
    Calls Tryz.prog 73 #[.string ⟨s.toArray⟩] w fun e w' => e = .returned (.tuple #[.agg #[.int .i64 0, .int .i64 0, .slice none 0 0], .int .i64 2]) ∧ Below w.heap.size w w' :=
 (refDecode_any s w hs).mono fun e w' hd => by
  unfold RetDec at hd
  rw [h] at hd
  exact ⟨hd.2, hd.1⟩
end Go.Proofs.YtikpcebhcnjkhaaGreatDoor.Q40
