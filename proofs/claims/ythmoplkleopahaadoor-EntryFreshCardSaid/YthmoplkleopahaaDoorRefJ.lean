/- The contract of the reference's Decode. -/
import Derived.Test.YthmoplkleopahaaDoorRefI
namespace Go.Proofs.YthmoplkleopahaaDoor
open Go.RowKit

theorem retRS_none {P : Program} {f : FuncId} {args : Array Value} {o : Option (List (List UInt8))} {w : World} (h : Calls P f args w (RetRS o w)) (hl : o = none) :
    Calls P f args w fun e w' => (∃ A n c, e = .returned (.tuple #[.slice A n c, .bool false])) ∧ Below w.heap.size w w' :=
  h.mono fun _ _ ⟨hw, he⟩ => by subst hl; exact ⟨he, hw⟩
theorem retRS_some {P : Program} {f : FuncId} {args : Array Value} {o : Option (List (List UInt8))} {w : World} {xs : List (List UInt8)} (h : Calls P f args w (RetRS o w)) (hl : o = some xs) :
    Calls P f args w fun e w' => (∃ A c, e = .returned (.tuple #[.slice A xs.length c, .bool true]) ∧ Rd w' 1 A xs.length (strC xs) ∧ xs.length ≤ c ∧ c ≤ 9223372036854775807) ∧ Below w.heap.size w w' :=
  h.mono fun _ _ ⟨hw, he⟩ => by subst hl; exact ⟨he, hw⟩
theorem refGo_len : ∀ (k : Nat) (s : List UInt8) (xs : List (List UInt8)) (m : Nat), refGo k s = some (xs, m) → xs.length = k ∧ ∀ x ∈ xs, x.length ≤ 200
  | 0, s, xs, m, h => by simp only [refGo, Option.some.injEq, Prod.mk.injEq] at h; obtain ⟨rfl, _⟩ := h; simp
  | k + 1, s, xs, m, h => by
    rw [refGo] at h
    split at h
    · simp at h
    · split at h
      · simp at h
      · rename_i ys m' hg
        simp only [Option.some.injEq, Prod.mk.injEq] at h
        obtain ⟨rfl, _⟩ := h
        obtain ⟨i1, i2⟩ := refGo_len k _ _ _ hg
        refine ⟨by simp [i1], fun x hx => ?_⟩
        rcases List.mem_cons.1 hx with rfl | hx
        · have := (takeR_le s 200).2
          rw [List.length_take]; omega
        · exact i2 x hx
theorem refStrs_len {s : List UInt8} {xs : List (List UInt8)} (h : refStrs s = some xs) : xs.length ≤ 25 ∧ ∀ x ∈ xs, x.length ≤ 200 := by
  unfold refStrs at h
  split at h
  · simp at h
  · split at h
    · simp at h
    · rename_i ys m hg
      split at h
      · simp only [Option.some.injEq] at h
        subst h
        obtain ⟨i1, i2⟩ := refGo_len _ _ _ _ hg
        have := (takeR_le s 25).2
        exact ⟨by omega, i2⟩
      · simp at h
theorem numR_i64 (s : List UInt8) : I64 (numR s) := by
  unfold numR
  split
  · rename_i h
    have h1 := valD_lt s h.2.1
    have h2 : 10 ^ s.length ≤ 10 ^ 7 := Nat.pow_le_pow_right (by omega) h.1
    exact ⟨by omega, by omega⟩
  · exact ⟨by decide, by decide⟩
theorem readR_finish (t : List (List UInt8)) : readR (wFinish :: t) = ⟨3, 0, []⟩ := by rw [readR, if_pos rfl]
theorem readR_join (x : List UInt8) : readR [wJoin, x] = ⟨2, numR x, []⟩ := by rw [readR, if_neg (by decide), if_pos ⟨rfl, rfl⟩]; rfl
theorem readR_batch (t : List (List UInt8)) (h : t.length % 3 = 0) : readR (wBatch :: t) = ⟨1, 0, tripR t⟩ := by
  rw [readR, if_neg (by decide), if_neg (by intro hh; exact absurd hh.1 (by decide)), if_pos ⟨rfl, h⟩]
theorem readR_other (h : List UInt8) (t : List (List UInt8)) (h1 : h ≠ wFinish) (h2 : ¬ (h = wJoin ∧ t.length = 1)) (h3 : ¬ (h = wBatch ∧ t.length % 3 = 0)) : readR (h :: t) = ⟨0, 0, []⟩ := by
  rw [readR, if_neg h1, if_neg h2, if_neg h3]
set_option maxRecDepth 100000 in
set_option maxHeartbeats 2000000 in
theorem refDecode_bad (s : List UInt8)  (w : World) (hs : s.length ≤ 1048576) (hg : refStrs s = none) : Calls Tryd.prog 19 #[.string ⟨s.toArray⟩] w (RetDec (decE s) w) := by
  have B0 := Lib.hid (below_new w (.cells #[.int .i64 0, .int .i64 0, .slice none 0 0] 24))
  have HL := Lib.hid (retRS_none (refStrs_any ⟨s.toArray⟩ (w.alloc (.cells #[.int .i64 0, .int .i64 0, .slice none 0 0] 24)) (by rw [size_mk]; omega)) hg)
  have HD := Lib.hid (decE_refBad hg)
  clear hg
  go_enter Tryd.func19, Tryd.ntmps19
  go_wp2_with fail
  refine HL.out.mono ?_
  rintro e w1 ⟨⟨A, n, c, rfl⟩, b1⟩
  have B1 := Lib.hid (bon B0.out b1)
  have hz : w.heap.size < w1.heap.size := by have := b1.size; simp at this; omega
  obtain ⟨⟨c0, c1, c2⟩, f0, f1, f2⟩ := own3 (by simpa using b1)
  clear b1
  go_wp2_with fail
  exact bodyPost_ret (v := .tuple #[.agg #[.int .i64 0, .int .i64 0, .slice none 0 0], .int .i64 2]) (by simp [results, Tryd.results19, go_sem, c0, c1, c2]) rfl (ret_d_none HD.out (((B1.out.setCell (Nat.le_refl _) _).setCell (Nat.le_refl _) _).setCell (Nat.le_refl _) _))
set_option maxRecDepth 100000 in
set_option maxHeartbeats 2000000 in
theorem refDecode_nil (s : List UInt8)  (w : World) (hs : s.length ≤ 1048576) (hg : refStrs s = some []) : Calls Tryd.prog 19 #[.string ⟨s.toArray⟩] w (RetDec (decE s) w) := by
  have B0 := Lib.hid (below_new w (.cells #[.int .i64 0, .int .i64 0, .slice none 0 0] 24))
  have HL := Lib.hid (retRS_some (refStrs_any ⟨s.toArray⟩ (w.alloc (.cells #[.int .i64 0, .int .i64 0, .slice none 0 0] 24)) (by rw [size_mk]; omega)) hg)
  have HD := Lib.hid (decE_refNil hg)
  clear hg
  go_enter Tryd.func19, Tryd.ntmps19
  go_wp2_with fail
  refine HL.out.mono ?_
  rintro e w1 ⟨⟨A, c, rfl, _, _, _⟩, b1⟩
  have B1 := Lib.hid (bon B0.out b1)
  have hz : w.heap.size < w1.heap.size := by have := b1.size; simp at this; omega
  obtain ⟨⟨c0, c1, c2⟩, f0, f1, f2⟩ := own3 (by simpa using b1)
  clear b1
  simp only [List.length_nil]
  go_wp2_with fail
  exact bodyPost_ret (v := .tuple #[.agg #[.int .i64 0, .int .i64 0, .slice none 0 0], .int .i64 2]) (by simp [results, Tryd.results19, go_sem, c0, c1, c2]) rfl (ret_d_none HD.out (((B1.out.setCell (Nat.le_refl _) _).setCell (Nat.le_refl _) _).setCell (Nat.le_refl _) _))
set_option maxRecDepth 100000 in
set_option maxHeartbeats 2000000 in
theorem refDecode_finish (s : List UInt8) (t : List (List UInt8)) (w : World) (hs : s.length ≤ 1048576) (hg : refStrs s = some (wFinish :: t)) : Calls Tryd.prog 19 #[.string ⟨s.toArray⟩] w (RetDec (decE s) w) := by
  have B0 := Lib.hid (below_new w (.cells #[.int .i64 0, .int .i64 0, .slice none 0 0] 24))
  have HL := Lib.hid (retRS_some (refStrs_any ⟨s.toArray⟩ (w.alloc (.cells #[.int .i64 0, .int .i64 0, .slice none 0 0] 24)) (by rw [size_mk]; omega)) hg)
  have HD := Lib.hid (decE_ref hg)
  have hlen := refStrs_len hg
  have HR := Lib.hid (O3.new w (.int .i64 0) (.int .i64 0) (.slice none 0 0) 24)
  have ht : t.length ≤ 25 := by have := hlen.1; simp only [List.length_cons] at this; omega
  have htc : ((t.length : Int) + 1 == 0) = false := by rw [beq_eq_false_iff_ne]; omega
  clear hlen
  clear hg
  go_enter Tryd.func19, Tryd.ntmps19
  go_wp2_with fail
  refine HL.out.mono ?_
  rintro e w1 ⟨⟨A, c, rfl, r1, hc, hcm⟩, b1⟩
  have B1 := Lib.hid (bon B0.out b1)
  have HR1 := Lib.hid (HR.out.below b1)
  obtain ⟨g, o, rfl, hgl, hcc⟩ := r1.cells (by simp [strC])
  have a0 : w1.cell? ⟨g, o, none⟩ = some (.string ⟨#[102, 105, 110, 105, 115, 104]⟩) := by simpa [strC, wFinish] using hcc 0 _ rfl
  have hn1 := HR1.out.lt
  have HO1 := Lib.hid (O3.new w1 (.int .i64 0) (.int .i64 0) (.slice none 0 0) 24)
  have HO3' := Lib.hid (O3.new w1 (.int .i64 3) (.int .i64 0) (.slice none 0 0) 24)
  have B3' := Lib.hid (B1.out.alloc B1.out.size (.cells #[.int .i64 3, .int .i64 0, .slice none 0 0] 24))
  have HR3' := Lib.hid (HR1.out.alloc (.cells #[.int .i64 3, .int .i64 0, .slice none 0 0] 24))
  have e0 : (w1.alloc (.cells #[.int .i64 0, .int .i64 0, .slice none 0 0] 24)).cell? ⟨g, o, none⟩ = some (.string ⟨#[102, 105, 110, 105, 115, 104]⟩) := ((below_new w1 _).cell (p := ⟨g, o, none⟩) hgl).trans a0
  clear b1 r1 hcc
  simp only [List.length_cons]
  go_wp2_with fail
  generalize w1.alloc (.cells #[.int .i64 3, .int .i64 0, .slice none 0 0] 24) = wx at B3' HR3' HO3' ⊢
  have B3 := B3'
  have HR3 := HR3'
  have HO3 := HO3'
  have HQ3 := Lib.hid (rqIn_nil wx)
  have HVal := refValid_any 3 0 [] none 0 wx HQ3.out
  by_cases hv : vEn ⟨3, 0, []⟩ = 0
  · rw [hv] at HVal
    refine HVal.mono ?_
    rintro e w3 ⟨rfl, b3⟩
    have B4 := Lib.hid (bon B3.out b3)
    have HR4 := Lib.hid (HR3.out.below b3)
    have HO4 := Lib.hid (HO3.out.below b3)
    have HQ4 := Lib.hid (HQ3.out.below b3)
    obtain ⟨hlt4, p0, p1, p2, f0, f1, f2⟩ := HO4.out
    clear b3
    go_wp2_with fail
    have HVl := refValue_any 3 0 [] none 0 w3 HQ4.out hv
    by_cases hq : valE ⟨3, 0, []⟩ = s
    · rw [hq] at HVl
      refine HVl.mono ?_
      rintro e w4 ⟨rfl, b4⟩
      have B5 := Lib.hid (bon B4.out b4)
      have HR5 := Lib.hid (HR4.out.below b4)
      have HO5 := Lib.hid (HO4.out.below b4)
      have HQ5 := Lib.hid (HQ4.out.below b4)
      have HY : Hid (decE s = some ⟨3, 0, []⟩) := Lib.hid (by rw [HD.out, readR_finish, if_pos ⟨hv, hq⟩])
      clear b4 p0 p1 p2 f0 f1 f2 hv hq
      obtain ⟨hlt5, p0, p1, p2, f0, f1, f2⟩ := HO5.out
      obtain ⟨hlt6, r0, r1, r2, s0, s1, s2⟩ := HR5.out
      go_wp2_with fail
      refine bodyPost_ret (v := .tuple #[.agg #[.int .i64 (3), .int .i64 (0), .slice none 0 0], .int .i64 0]) (by simp [results, Tryd.results19, go_sem, r0, r1, r2]) rfl (ret_d_some HY.out (((B5.out.setCell (Nat.le_refl _) _).setCell (Nat.le_refl _) _).setCell (Nat.le_refl _) _) rfl ?_)
      exact rqIn_sets HQ5.out (fun a h => by cases h) _ _ _
    · have HY : Hid (decE s = none) := Lib.hid (by rw [HD.out, readR_finish, if_neg (fun h => hq h.2)])
      have hq1 : (valE ⟨3, 0, []⟩ == s) = false := by simpa using hq
      generalize valE ⟨3, 0, []⟩ = v at HVl hq1 hq
      refine HVl.mono ?_
      rintro e w4 ⟨rfl, b4⟩
      have B5 := Lib.hid (bon B4.out b4)
      have HR5 := Lib.hid (HR4.out.below b4)
      clear b4 p0 p1 p2 f0 f1 f2 hv hq
      obtain ⟨hlt6, r0, r1, r2, s0, s1, s2⟩ := HR5.out
      go_wp2_with fail
      exact bodyPost_ret (v := .tuple #[.agg #[.int .i64 0, .int .i64 0, .slice none 0 0], .int .i64 2]) (by simp [results, Tryd.results19, go_sem, r0, r1, r2]) rfl (ret_d_none HY.out (((B5.out.setCell (Nat.le_refl _) _).setCell (Nat.le_refl _) _).setCell (Nat.le_refl _) _))
  · have HY : Hid (decE s = none) := Lib.hid (by rw [HD.out, readR_finish, if_neg (fun h => hv h.1)])
    generalize vEn ⟨3, 0, []⟩ = v at HVal hv
    have hv1 : (v == 0) = false := by simpa using hv
    have hv2 : (v != 0) = true := by simpa using hv
    refine HVal.mono ?_
    rintro e w3 ⟨rfl, b3⟩
    have B4 := Lib.hid (bon B3.out b3)
    have HR4 := Lib.hid (HR3.out.below b3)
    clear b3 hv
    obtain ⟨hlt6, r0, r1, r2, s0, s1, s2⟩ := HR4.out
    go_wp2_with fail
    exact bodyPost_ret (v := .tuple #[.agg #[.int .i64 0, .int .i64 0, .slice none 0 0], .int .i64 2]) (by simp [results, Tryd.results19, go_sem, r0, r1, r2]) rfl (ret_d_none HY.out (((B4.out.setCell (Nat.le_refl _) _).setCell (Nat.le_refl _) _).setCell (Nat.le_refl _) _))
set_option maxRecDepth 100000 in
set_option maxHeartbeats 2000000 in
theorem refDecode_join (s : List UInt8) (x : List UInt8) (w : World) (hs : s.length ≤ 1048576) (hg : refStrs s = some [wJoin, x]) : Calls Tryd.prog 19 #[.string ⟨s.toArray⟩] w (RetDec (decE s) w) := by
  have B0 := Lib.hid (below_new w (.cells #[.int .i64 0, .int .i64 0, .slice none 0 0] 24))
  have HL := Lib.hid (retRS_some (refStrs_any ⟨s.toArray⟩ (w.alloc (.cells #[.int .i64 0, .int .i64 0, .slice none 0 0] 24)) (by rw [size_mk]; omega)) hg)
  have HD := Lib.hid (decE_ref hg)
  have hlen := refStrs_len hg
  have HR := Lib.hid (O3.new w (.int .i64 0) (.int .i64 0) (.slice none 0 0) 24)
  have hx : x.length ≤ 200 := hlen.2 x (by simp)
  have HI64 := Lib.hid (numR_i64 x)
  clear hlen
  clear hg
  go_enter Tryd.func19, Tryd.ntmps19
  go_wp2_with fail
  refine HL.out.mono ?_
  rintro e w1 ⟨⟨A, c, rfl, r1, hc, hcm⟩, b1⟩
  have B1 := Lib.hid (bon B0.out b1)
  have HR1 := Lib.hid (HR.out.below b1)
  obtain ⟨g, o, rfl, hgl, hcc⟩ := r1.cells (by simp [strC])
  have a0 : w1.cell? ⟨g, o, none⟩ = some (.string ⟨#[106, 111, 105, 110]⟩) := by simpa [strC, wJoin] using hcc 0 _ rfl
  have a1 : w1.cell? ⟨g, o + 1, none⟩ = some (.string ⟨x.toArray⟩) := by simpa [strC] using hcc 1 _ rfl
  have hn1 := HR1.out.lt
  have HO1 := Lib.hid (O3.new w1 (.int .i64 0) (.int .i64 0) (.slice none 0 0) 24)
  clear r1 hcc
  simp only [List.length_cons, List.length_nil]
  go_wp2_with fail
  refine (number_any ⟨x.toArray⟩ _ (by rw [size_mk]; omega)).mono ?_
  rintro e w2 ⟨rfl, b2⟩
  have B2 := Lib.hid (bon (B1.out.alloc B1.out.size _) b2)
  have HR2 := Lib.hid ((HR1.out.below (below_new w1 _)).below b2)
  have HO2 := Lib.hid (HO1.out.below b2)
  obtain ⟨hlt2, p0, p1, p2, f0, f1, f2⟩ := HO2.out
  have B3 := Lib.hid ((B2.out.setCell (p := ⟨w1.heap.size, 0, none⟩) (by show w.heap.size ≤ w1.heap.size; omega) (.int .i64 2)).setCell (p := ⟨w1.heap.size, 1, none⟩) (by show w.heap.size ≤ w1.heap.size; omega) (.int .i64 (numR x)))
  have HR3 := Lib.hid ((HR2.out.far ⟨w1.heap.size, 0, none⟩ (by show w1.heap.size ≠ w.heap.size; omega) (.int .i64 2)).far ⟨w1.heap.size, 1, none⟩ (by show w1.heap.size ≠ w.heap.size; omega) (.int .i64 (numR x)))
  have HO3 := Lib.hid ((HO2.out.set0 (.int .i64 2)).set1 (.int .i64 (numR x)))
  clear b2 b1
  go_wp2_with fail
  clear p0 p1 p2 f0 f1 f2
  generalize (w2.setCell ⟨w1.heap.size, 0, none⟩ (.int .i64 2)).setCell ⟨w1.heap.size, 1, none⟩ (.int .i64 (numR x)) = wx at B3 HR3 HO3 ⊢
  have HQ3 := Lib.hid (rqIn_nil wx)
  have HVal := refValid_any 2 (numR x) [] none 0 wx HQ3.out
  by_cases hv : vEn ⟨2, (numR x), []⟩ = 0
  · rw [hv] at HVal
    refine HVal.mono ?_
    rintro e w3 ⟨rfl, b3⟩
    have B4 := Lib.hid (bon B3.out b3)
    have HR4 := Lib.hid (HR3.out.below b3)
    have HO4 := Lib.hid (HO3.out.below b3)
    have HQ4 := Lib.hid (HQ3.out.below b3)
    obtain ⟨hlt4, p0, p1, p2, f0, f1, f2⟩ := HO4.out
    clear b3
    go_wp2_with fail
    have HVl := refValue_any 2 (numR x) [] none 0 w3 HQ4.out hv
    by_cases hq : valE ⟨2, (numR x), []⟩ = s
    · rw [hq] at HVl
      refine HVl.mono ?_
      rintro e w4 ⟨rfl, b4⟩
      have B5 := Lib.hid (bon B4.out b4)
      have HR5 := Lib.hid (HR4.out.below b4)
      have HO5 := Lib.hid (HO4.out.below b4)
      have HQ5 := Lib.hid (HQ4.out.below b4)
      have HY : Hid (decE s = some ⟨2, (numR x), []⟩) := Lib.hid (by rw [HD.out, readR_join, if_pos ⟨hv, hq⟩])
      clear b4 p0 p1 p2 f0 f1 f2 hv hq
      obtain ⟨hlt5, p0, p1, p2, f0, f1, f2⟩ := HO5.out
      obtain ⟨hlt6, r0, r1, r2, s0, s1, s2⟩ := HR5.out
      go_wp2_with fail
      refine bodyPost_ret (v := .tuple #[.agg #[.int .i64 (2), .int .i64 ((numR x)), .slice none 0 0], .int .i64 0]) (by simp [results, Tryd.results19, go_sem, r0, r1, r2]) rfl (ret_d_some HY.out (((B5.out.setCell (Nat.le_refl _) _).setCell (Nat.le_refl _) _).setCell (Nat.le_refl _) _) rfl ?_)
      exact rqIn_sets HQ5.out (fun a h => by cases h) _ _ _
    · have HY : Hid (decE s = none) := Lib.hid (by rw [HD.out, readR_join, if_neg (fun h => hq h.2)])
      have hq1 : (valE ⟨2, (numR x), []⟩ == s) = false := by simpa using hq
      generalize valE ⟨2, (numR x), []⟩ = v at HVl hq1 hq
      refine HVl.mono ?_
      rintro e w4 ⟨rfl, b4⟩
      have B5 := Lib.hid (bon B4.out b4)
      have HR5 := Lib.hid (HR4.out.below b4)
      clear b4 p0 p1 p2 f0 f1 f2 hv hq
      obtain ⟨hlt6, r0, r1, r2, s0, s1, s2⟩ := HR5.out
      go_wp2_with fail
      exact bodyPost_ret (v := .tuple #[.agg #[.int .i64 0, .int .i64 0, .slice none 0 0], .int .i64 2]) (by simp [results, Tryd.results19, go_sem, r0, r1, r2]) rfl (ret_d_none HY.out (((B5.out.setCell (Nat.le_refl _) _).setCell (Nat.le_refl _) _).setCell (Nat.le_refl _) _))
  · have HY : Hid (decE s = none) := Lib.hid (by rw [HD.out, readR_join, if_neg (fun h => hv h.1)])
    generalize vEn ⟨2, (numR x), []⟩ = v at HVal hv
    have hv1 : (v == 0) = false := by simpa using hv
    have hv2 : (v != 0) = true := by simpa using hv
    refine HVal.mono ?_
    rintro e w3 ⟨rfl, b3⟩
    have B4 := Lib.hid (bon B3.out b3)
    have HR4 := Lib.hid (HR3.out.below b3)
    clear b3 hv
    obtain ⟨hlt6, r0, r1, r2, s0, s1, s2⟩ := HR4.out
    go_wp2_with fail
    exact bodyPost_ret (v := .tuple #[.agg #[.int .i64 0, .int .i64 0, .slice none 0 0], .int .i64 2]) (by simp [results, Tryd.results19, go_sem, r0, r1, r2]) rfl (ret_d_none HY.out (((B4.out.setCell (Nat.le_refl _) _).setCell (Nat.le_refl _) _).setCell (Nat.le_refl _) _))
set_option maxRecDepth 100000 in
set_option maxHeartbeats 2000000 in
theorem refDecode_other (s : List UInt8) (h : List UInt8) (t : List (List UInt8)) (w : World) (hs : s.length ≤ 1048576) (hg : refStrs s = some (h :: t)) (h1 : h ≠ wFinish) (h2 : ¬ (h = wJoin ∧ t.length = 1)) (h3 : ¬ (h = wBatch ∧ t.length % 3 = 0)) : Calls Tryd.prog 19 #[.string ⟨s.toArray⟩] w (RetDec (decE s) w) := by
  have B0 := Lib.hid (below_new w (.cells #[.int .i64 0, .int .i64 0, .slice none 0 0] 24))
  have HL := Lib.hid (retRS_some (refStrs_any ⟨s.toArray⟩ (w.alloc (.cells #[.int .i64 0, .int .i64 0, .slice none 0 0] 24)) (by rw [size_mk]; omega)) hg)
  have HD := Lib.hid (decE_ref hg)
  have hlen := refStrs_len hg
  have HR := Lib.hid (O3.new w (.int .i64 0) (.int .i64 0) (.slice none 0 0) 24)
  have HEq := Lib.hid (readR_other h t h1 h2 h3)
  have ht : t.length ≤ 25 := by have := hlen.1; simp only [List.length_cons] at this; omega
  have htc : ((t.length : Int) + 1 == 0) = false := by rw [beq_eq_false_iff_ne]; omega
  have hf1 : (h == [102, 105, 110, 105, 115, 104]) = false := by rw [beq_eq_false_iff_ne]; exact h1
  have hf2 : ¬ h = [102, 105, 110, 105, 115, 104] := h1
  have htm : ((t.length : Int) + 1).tmod 3 = ((t.length : Int) + 1) % 3 := Int.tmod_eq_emod_of_nonneg (by omega)
  have hways : ((h == [106, 111, 105, 110]) = false ∧ ¬ h = [106, 111, 105, 110] ∧ (h == [98, 97, 116, 99, 104]) = false ∧ ¬ h = [98, 97, 116, 99, 104]) ∨ (h = [106, 111, 105, 110] ∧ ((t.length : Int) + 1 == 2) = false) ∨ (h = [98, 97, 116, 99, 104] ∧ (((t.length : Int) + 1).tmod 3 == 1) = false) := by
    by_cases hj : h = [106, 111, 105, 110]
    · exact .inr (.inl ⟨hj, by rw [beq_eq_false_iff_ne]; intro h9; exact h2 ⟨hj, by omega⟩⟩)
    · by_cases hb : h = [98, 97, 116, 99, 104]
      · exact .inr (.inr ⟨hb, by rw [beq_eq_false_iff_ne, htm]; intro h9; exact h3 ⟨hb, by omega⟩⟩)
      · exact .inl ⟨by rw [beq_eq_false_iff_ne]; exact hj, hj, by rw [beq_eq_false_iff_ne]; exact hb, hb⟩
  clear hlen h1 h2 h3
  clear hg
  go_enter Tryd.func19, Tryd.ntmps19
  go_wp2_with fail
  refine HL.out.mono ?_
  rintro e w1 ⟨⟨A, c, rfl, r1, hc, hcm⟩, b1⟩
  have B1 := Lib.hid (bon B0.out b1)
  have HR1 := Lib.hid (HR.out.below b1)
  obtain ⟨g, o, rfl, hgl, hcc⟩ := r1.cells (by simp [strC])
  have a0 : w1.cell? ⟨g, o, none⟩ = some (.string ⟨h.toArray⟩) := by simpa [strC] using hcc 0 _ rfl
  have hn1 := HR1.out.lt
  have HO1 := Lib.hid (O3.new w1 (.int .i64 0) (.int .i64 0) (.slice none 0 0) 24)
  have e0 : (w1.alloc (.cells #[.int .i64 0, .int .i64 0, .slice none 0 0] 24)).cell? ⟨g, o, none⟩ = some (.string ⟨h.toArray⟩) := ((below_new w1 _).cell (p := ⟨g, o, none⟩) hgl).trans a0
  have B3 := Lib.hid (B1.out.alloc B1.out.size (.cells #[.int .i64 0, .int .i64 0, .slice none 0 0] 24))
  have HR3 := Lib.hid (HR1.out.alloc (.cells #[.int .i64 0, .int .i64 0, .slice none 0 0] 24))
  have HO3 := HO1
  clear b1 r1 hcc
  simp only [List.length_cons]
  rcases hways with ⟨j1, j2, j3, j4⟩ | ⟨rfl, j1⟩ | ⟨rfl, j1⟩
  all_goals
    go_wp2_with fail
    generalize w1.alloc (.cells #[.int .i64 0, .int .i64 0, .slice none 0 0] 24) = wx at B3 HR3 HO3 e0 ⊢
    have HQ3 := Lib.hid (rqIn_nil wx)
    have HVal := refValid_any 0 0 [] none 0 wx HQ3.out
    by_cases hv : vEn ⟨0, 0, []⟩ = 0
    · rw [hv] at HVal
      refine HVal.mono ?_
      rintro e w3 ⟨rfl, b3⟩
      have B4 := Lib.hid (bon B3.out b3)
      have HR4 := Lib.hid (HR3.out.below b3)
      have HO4 := Lib.hid (HO3.out.below b3)
      have HQ4 := Lib.hid (HQ3.out.below b3)
      obtain ⟨hlt4, p0, p1, p2, f0, f1, f2⟩ := HO4.out
      clear b3
      go_wp2_with fail
      have HVl := refValue_any 0 0 [] none 0 w3 HQ4.out hv
      by_cases hq : valE ⟨0, 0, []⟩ = s
      · rw [hq] at HVl
        refine HVl.mono ?_
        rintro e w4 ⟨rfl, b4⟩
        have B5 := Lib.hid (bon B4.out b4)
        have HR5 := Lib.hid (HR4.out.below b4)
        have HO5 := Lib.hid (HO4.out.below b4)
        have HQ5 := Lib.hid (HQ4.out.below b4)
        have HY : Hid (decE s = some ⟨0, 0, []⟩) := Lib.hid (by rw [HD.out, HEq.out, if_pos ⟨hv, hq⟩])
        clear b4 p0 p1 p2 f0 f1 f2 hv hq
        obtain ⟨hlt5, p0, p1, p2, f0, f1, f2⟩ := HO5.out
        obtain ⟨hlt6, r0, r1, r2, s0, s1, s2⟩ := HR5.out
        go_wp2_with fail
        refine bodyPost_ret (v := .tuple #[.agg #[.int .i64 (0), .int .i64 (0), .slice none 0 0], .int .i64 0]) (by simp [results, Tryd.results19, go_sem, r0, r1, r2]) rfl (ret_d_some HY.out (((B5.out.setCell (Nat.le_refl _) _).setCell (Nat.le_refl _) _).setCell (Nat.le_refl _) _) rfl ?_)
        exact rqIn_sets HQ5.out (fun a h => by cases h) _ _ _
      · have HY : Hid (decE s = none) := Lib.hid (by rw [HD.out, HEq.out, if_neg (fun h => hq h.2)])
        have hq1 : (valE ⟨0, 0, []⟩ == s) = false := by simpa using hq
        generalize valE ⟨0, 0, []⟩ = v at HVl hq1 hq
        refine HVl.mono ?_
        rintro e w4 ⟨rfl, b4⟩
        have B5 := Lib.hid (bon B4.out b4)
        have HR5 := Lib.hid (HR4.out.below b4)
        clear b4 p0 p1 p2 f0 f1 f2 hv hq
        obtain ⟨hlt6, r0, r1, r2, s0, s1, s2⟩ := HR5.out
        go_wp2_with fail
        exact bodyPost_ret (v := .tuple #[.agg #[.int .i64 0, .int .i64 0, .slice none 0 0], .int .i64 2]) (by simp [results, Tryd.results19, go_sem, r0, r1, r2]) rfl (ret_d_none HY.out (((B5.out.setCell (Nat.le_refl _) _).setCell (Nat.le_refl _) _).setCell (Nat.le_refl _) _))
    · have HY : Hid (decE s = none) := Lib.hid (by rw [HD.out, HEq.out, if_neg (fun h => hv h.1)])
      generalize vEn ⟨0, 0, []⟩ = v at HVal hv
      have hv1 : (v == 0) = false := by simpa using hv
      have hv2 : (v != 0) = true := by simpa using hv
      refine HVal.mono ?_
      rintro e w3 ⟨rfl, b3⟩
      have B4 := Lib.hid (bon B3.out b3)
      have HR4 := Lib.hid (HR3.out.below b3)
      clear b3 hv
      obtain ⟨hlt6, r0, r1, r2, s0, s1, s2⟩ := HR4.out
      go_wp2_with fail
      exact bodyPost_ret (v := .tuple #[.agg #[.int .i64 0, .int .i64 0, .slice none 0 0], .int .i64 2]) (by simp [results, Tryd.results19, go_sem, r0, r1, r2]) rfl (ret_d_none HY.out (((B4.out.setCell (Nat.le_refl _) _).setCell (Nat.le_refl _) _).setCell (Nat.le_refl _) _))
end Go.Proofs.YthmoplkleopahaaDoor
