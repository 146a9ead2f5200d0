/- The contract of entry.Decode: the ways behind the list. -/
import Derived.Test.YthmoplkleopahaaDoorEntF
namespace Go.Proofs.YthmoplkleopahaaDoor
open Go.RowKit

/-- a block of three cells of the call's own -/
structure O3 (w : World) (b : Nat) (x y z : Value) : Prop where
  lt : b < w.heap.size
  c0 : w.cell? ⟨b, 0, none⟩ = some x
  c1 : w.cell? ⟨b, 1, none⟩ = some y
  c2 : w.cell? ⟨b, 2, none⟩ = some z
  f0 : w.frozen? ⟨b, 0, none⟩ = false
  f1 : w.frozen? ⟨b, 1, none⟩ = false
  f2 : w.frozen? ⟨b, 2, none⟩ = false
theorem O3.below {w w' : World} {b : Nat} {x y z : Value} (h : O3 w b x y z) (hb : Below w.heap.size w w') : O3 w' b x y z where
  lt := Nat.lt_of_lt_of_le h.lt hb.size
  c0 := (hb.cell (p := ⟨b, 0, none⟩) h.lt).trans h.c0
  c1 := (hb.cell (p := ⟨b, 1, none⟩) h.lt).trans h.c1
  c2 := (hb.cell (p := ⟨b, 2, none⟩) h.lt).trans h.c2
  f0 := (hb.frozen (p := ⟨b, 0, none⟩) h.lt).trans h.f0
  f1 := (hb.frozen (p := ⟨b, 1, none⟩) h.lt).trans h.f1
  f2 := (hb.frozen (p := ⟨b, 2, none⟩) h.lt).trans h.f2
theorem O3.new (w : World) (x y z : Value) (T : TypeId) : O3 (w.alloc (.cells #[x, y, z] T)) w.heap.size x y z where
  lt := by simp
  c0 := by simp
  c1 := by simp
  c2 := by simp
  f0 := by simp
  f1 := by simp
  f2 := by simp
theorem frozen_set (w : World) (p q : Addr) (v : Value) : (w.setCell p v).frozen? q = w.frozen? q := by simp
theorem O3.set0 {w : World} {b : Nat} {x y z : Value} (h : O3 w b x y z) (v : Value) : O3 (w.setCell ⟨b, 0, none⟩ v) b v y z where
  lt := by simpa using h.lt
  c0 := World.cell?_setCell_same _ _ _ h.c0
  c1 := (World.cell?_setCell_other _ _ _ _ (by simp)).trans h.c1
  c2 := (World.cell?_setCell_other _ _ _ _ (by simp)).trans h.c2
  f0 := (frozen_set _ _ _ _).trans h.f0
  f1 := (frozen_set _ _ _ _).trans h.f1
  f2 := (frozen_set _ _ _ _).trans h.f2
theorem O3.set1 {w : World} {b : Nat} {x y z : Value} (h : O3 w b x y z) (v : Value) : O3 (w.setCell ⟨b, 1, none⟩ v) b x v z where
  lt := by simpa using h.lt
  c0 := (World.cell?_setCell_other _ _ _ _ (by simp)).trans h.c0
  c1 := World.cell?_setCell_same _ _ _ h.c1
  c2 := (World.cell?_setCell_other _ _ _ _ (by simp)).trans h.c2
  f0 := (frozen_set _ _ _ _).trans h.f0
  f1 := (frozen_set _ _ _ _).trans h.f1
  f2 := (frozen_set _ _ _ _).trans h.f2
theorem O3.set2 {w : World} {b : Nat} {x y z : Value} (h : O3 w b x y z) (v : Value) : O3 (w.setCell ⟨b, 2, none⟩ v) b x y v where
  lt := by simpa using h.lt
  c0 := (World.cell?_setCell_other _ _ _ _ (by simp)).trans h.c0
  c1 := (World.cell?_setCell_other _ _ _ _ (by simp)).trans h.c1
  c2 := World.cell?_setCell_same _ _ _ h.c2
  f0 := (frozen_set _ _ _ _).trans h.f0
  f1 := (frozen_set _ _ _ _).trans h.f1
  f2 := (frozen_set _ _ _ _).trans h.f2
theorem O3.far {w : World} {b : Nat} {x y z : Value} (h : O3 w b x y z) (p : Addr) (hp : p.block ≠ b) (v : Value) : O3 (w.setCell p v) b x y z where
  lt := by simpa using h.lt
  c0 := (World.cell?_setCell_other _ _ _ _ (by rintro rfl; exact hp rfl)).trans h.c0
  c1 := (World.cell?_setCell_other _ _ _ _ (by rintro rfl; exact hp rfl)).trans h.c1
  c2 := (World.cell?_setCell_other _ _ _ _ (by rintro rfl; exact hp rfl)).trans h.c2
  f0 := (frozen_set _ _ _ _).trans h.f0
  f1 := (frozen_set _ _ _ _).trans h.f1
  f2 := (frozen_set _ _ _ _).trans h.f2
theorem rqIn_nil (w : World) : RqIn w none 0 [] := ⟨Rd.nil _ _ _, by simp, by simp, by simp, by simp⟩
/-- the parts of a list that was read are no longer than the text -/
theorem getMany_len : ∀ (n : Nat) (s : List UInt8) (xs : List (List UInt8)) (m : Nat), getMany getStr n s = some (xs, m) → xs.length = n ∧ xs.length ≤ s.length ∧ ∀ x ∈ xs, x.length ≤ s.length
  | 0, s, xs, m, h => by
    simp only [getMany, Option.some.injEq, Prod.mk.injEq] at h
    obtain ⟨rfl, rfl⟩ := h
    simp
  | n + 1, s, xs, m, h => by
    rw [getMany] at h
    split at h
    · simp at h
    · rename_i x k hx
      have hl := getStr_le hx
      split at h
      · simp at h
      · rename_i ys m' hy
        obtain ⟨i1, i2, i3⟩ := getMany_len n _ _ _ hy
        simp only [Option.some.injEq, Prod.mk.injEq] at h
        obtain ⟨rfl, rfl⟩ := h
        simp only [List.length_drop] at i2 i3
        refine ⟨by simp [i1], by simp only [List.length_cons]; omega, ?_⟩
        intro z hz
        rcases List.mem_cons.1 hz with rfl | hz
        · omega
        · have := i3 z hz; omega
theorem getList_len {s : List UInt8} {xs : List (List UInt8)} {n : Nat} (h : getList s = some (xs, n)) : xs.length ≤ s.length ∧ ∀ x ∈ xs, x.length ≤ s.length := by
  unfold getList getAll at h
  split at h
  · simp at h
  · rename_i k a hv
    have hl := getV_le hv
    split at h
    · simp at h
    · rename_i ys m hm
      obtain ⟨i1, i2, i3⟩ := getMany_len _ _ _ _ hm
      simp only [Option.some.injEq, Prod.mk.injEq] at h
      obtain ⟨rfl, rfl⟩ := h
      simp only [List.length_drop] at i2 i3
      refine ⟨by omega, fun x hx => by have := i3 x hx; omega⟩
theorem Rd.far {w : World} {k n : Nat} {A : Option Addr} {xs : List Value} (h : Rd w k A n xs) (p : Addr) (hp : ∀ a, A = some a → a.block ≠ p.block) (v : Value) : Rd (w.setCell p v) k A n xs :=
  ⟨h.len, fun hj => by
    obtain ⟨b, o, e, hl, hc⟩ := h.cells hj
    exact ⟨b, o, e, by simpa using hl, fun j u hu => (World.cell?_setCell_other _ _ _ _ (by rintro rfl; exact hp _ e rfl)).trans (hc j u hu)⟩⟩
theorem rqIn_sets {w : World} {A : Option Addr} {c : Nat} {l : List Rq} {b : Nat} (h : RqIn w A c l) (hb : ∀ a, A = some a → a.block ≠ b) (x y z : Value) : RqIn (((w.setCell ⟨b, 0, none⟩ x).setCell ⟨b, 1, none⟩ y).setCell ⟨b, 2, none⟩ z) A c l :=
  { h with rd := ((h.rd.far ⟨b, 0, none⟩ hb x).far ⟨b, 1, none⟩ hb y).far ⟨b, 2, none⟩ hb z }
theorem readE_join (x : List UInt8) : readE [wJoin, x] = ⟨2, atoi0 x, []⟩ := by
  rw [readE, if_pos ⟨rfl, rfl⟩]; rfl
theorem readE_finish (t : List (List UInt8)) : readE (wFinish :: t) = ⟨3, 0, []⟩ := by
  rw [readE, if_neg (by intro h; exact absurd h.1 (by decide)), if_pos rfl]
set_option maxRecDepth 100000 in
set_option maxHeartbeats 1000000 in
theorem decode_join (s x : List UInt8) (w : World) (he : Env w) (hs : s.length ≤ 4096) (n : Nat) (hg : getList s = some ([wJoin, x], n)) : Calls Tryd.prog 17 #[.string ⟨s.toArray⟩] w (RetDec (decE s) w) := by
  have B0 := Lib.hid (below_new w (.cells #[.int .i64 0, .int .i64 0, .slice none 0 0] 24))
  have HL := Lib.hid (retL_some (getList_any ⟨s.toArray⟩ (w.alloc (.cells #[.int .i64 0, .int .i64 0, .slice none 0 0] 24)) (by rw [size_mk]; omega)) hg)
  have HD := Lib.hid (decE_read hg)
  have hx : x.length ≤ 4096 := by have := (getList_len hg).2 x (by simp); omega
  have HE := Lib.hid he
  have HR := Lib.hid (O3.new w (.int .i64 0) (.int .i64 0) (.slice none 0 0) 24)
  clear hg he
  go_enter Tryd.func17, Tryd.ntmps17
  go_wp2_with fail
  refine HL.out.mono ?_
  rintro e w1 ⟨⟨A, c, rfl, r1, hc⟩, b1⟩
  have B1 := Lib.hid (bon B0.out b1)
  have HR1 := Lib.hid (HR.out.below b1)
  obtain ⟨g, o, rfl, hgl, hcc⟩ := r1.cells (by simp [strC])
  have a0 : w1.cell? ⟨g, o, none⟩ = some (.string ⟨#[106, 111, 105, 110]⟩) := by simpa [strC, wJoin] using hcc 0 _ rfl
  have a1 : w1.cell? ⟨g, o + 1, none⟩ = some (.string ⟨x.toArray⟩) := by simpa [strC] using hcc 1 _ rfl
  have hc' : 2 ≤ c := hc
  have hc1 : c ≠ 1 := by omega
  have hc2 : (1 : Int) ≤ (c : Int) := by omega
  have HO1 := Lib.hid (O3.new w1 (.int .i64 2) (.int .i64 0) (.slice none 0 0) 24)
  have hn1 := HR1.out.lt
  clear b1 r1 hcc hc
  go_wp2_with fail
  refine (atoi_any ⟨x.toArray⟩ (by rw [size_mk]; omega) _ (HE.out.below (B1.out.alloc B1.out.size _))).mono ?_
  rintro e w2 ⟨⟨ev, rfl⟩, b2⟩
  have B2 := Lib.hid (bon (B1.out.alloc B1.out.size _) b2)
  have HR2 := Lib.hid ((HR1.out.below (below_new w1 _)).below b2)
  have HO2 := Lib.hid (HO1.out.below b2)
  obtain ⟨hlt2, p0, p1, p2, f0, f1, f2⟩ := HO2.out
  have B3 := Lib.hid (B2.out.setCell (p := ⟨w1.heap.size, 1, none⟩) (by show w.heap.size ≤ w1.heap.size; omega) (.int .i64 (atoi0 x)))
  have HR3 := Lib.hid (HR2.out.far ⟨w1.heap.size, 1, none⟩ (by show w1.heap.size ≠ w.heap.size; omega) (.int .i64 (atoi0 x)))
  have HO3 := Lib.hid (HO2.out.set1 (.int .i64 (atoi0 x)))
  clear b2
  go_wp2_with fail
  clear p0 p1 p2 f0 f1 f2
  generalize w2.setCell ⟨w1.heap.size, 1, none⟩ (.int .i64 (atoi0 x)) = wx at B3 HR3 HO3 ⊢
  have HQ3 := Lib.hid (rqIn_nil wx)
  have HVal := enValid_any 2 (atoi0 x) [] none 0 wx HQ3.out
  by_cases hv : vEn ⟨2, (atoi0 x), []⟩ = 0
  · rw [hv] at HVal
    refine HVal.mono ?_
    rintro e w3 ⟨rfl, b3⟩
    have B4 := Lib.hid (bon B3.out b3)
    have HR4 := Lib.hid (HR3.out.below b3)
    have HO4 := Lib.hid (HO3.out.below b3)
    have HQ4 := Lib.hid (HQ3.out.below b3)
    obtain ⟨hlt4, p0, p1, p2, f0, f1, f2⟩ := HO4.out
    clear b3
    go_wp2_with fail
    have HVl := value_any 2 (atoi0 x) [] none 0 w3 (HE.out.below B4.out) HQ4.out (by simp) (by intro r hr; simp at hr) (atoi0_i64 x)
    by_cases hq : valE ⟨2, (atoi0 x), []⟩ = s
    · rw [hq] at HVl
      refine HVl.mono ?_
      rintro e w4 ⟨rfl, b4⟩
      have B5 := Lib.hid (bon B4.out b4)
      have HR5 := Lib.hid (HR4.out.below b4)
      have HO5 := Lib.hid (HO4.out.below b4)
      have HQ5 := Lib.hid (HQ4.out.below b4)
      have HY : Hid (decE s = some ⟨2, (atoi0 x), []⟩) := Lib.hid (by rw [HD.out, readE_join, if_pos ⟨hv, hq⟩])
      clear b4 p0 p1 p2 f0 f1 f2 hv hq
      obtain ⟨hlt5, p0, p1, p2, f0, f1, f2⟩ := HO5.out
      obtain ⟨hlt6, r0, r1, r2, s0, s1, s2⟩ := HR5.out
      go_wp2_with fail
      refine bodyPost_ret (v := .tuple #[.agg #[.int .i64 2, .int .i64 (atoi0 x), .slice none 0 0], .int .i64 0]) (by simp [results, Tryd.results17, go_sem, r0, r1, r2]) rfl (ret_d_some HY.out (((B5.out.setCell (Nat.le_refl _) _).setCell (Nat.le_refl _) _).setCell (Nat.le_refl _) _) rfl ?_)
      exact rqIn_sets HQ5.out (fun a h => by cases h) _ _ _
    · have HY : Hid (decE s = none) := Lib.hid (by rw [HD.out, readE_join, if_neg (fun h => hq h.2)])
      have hq1 : (valE ⟨2, (atoi0 x), []⟩ == s) = false := by simpa using hq
      generalize valE ⟨2, (atoi0 x), []⟩ = v at HVl hq1 hq
      refine HVl.mono ?_
      rintro e w4 ⟨rfl, b4⟩
      have B5 := Lib.hid (bon B4.out b4)
      have HR5 := Lib.hid (HR4.out.below b4)
      clear b4 p0 p1 p2 f0 f1 f2 hv hq
      obtain ⟨hlt6, r0, r1, r2, s0, s1, s2⟩ := HR5.out
      go_wp2_with fail
      exact bodyPost_ret (v := .tuple #[.agg #[.int .i64 0, .int .i64 0, .slice none 0 0], .int .i64 2]) (by simp [results, Tryd.results17, go_sem, r0, r1, r2]) rfl (ret_d_none HY.out (((B5.out.setCell (Nat.le_refl _) _).setCell (Nat.le_refl _) _).setCell (Nat.le_refl _) _))
  · have HY : Hid (decE s = none) := Lib.hid (by rw [HD.out, readE_join, if_neg (fun h => hv h.1)])
    generalize vEn ⟨2, (atoi0 x), []⟩ = v at HVal hv
    have hv1 : (v == 0) = false := by simpa using hv
    have hv2 : (v != 0) = true := by simpa using hv
    refine HVal.mono ?_
    rintro e w3 ⟨rfl, b3⟩
    have B4 := Lib.hid (bon B3.out b3)
    have HR4 := Lib.hid (HR3.out.below b3)
    clear b3 hv
    obtain ⟨hlt6, r0, r1, r2, s0, s1, s2⟩ := HR4.out
    go_wp2_with fail
    exact bodyPost_ret (v := .tuple #[.agg #[.int .i64 0, .int .i64 0, .slice none 0 0], .int .i64 2]) (by simp [results, Tryd.results17, go_sem, r0, r1, r2]) rfl (ret_d_none HY.out (((B4.out.setCell (Nat.le_refl _) _).setCell (Nat.le_refl _) _).setCell (Nat.le_refl _) _))
set_option maxRecDepth 100000 in
set_option maxHeartbeats 1000000 in
theorem decode_finish (s : List UInt8) (t : List (List UInt8)) (w : World) (he : Env w) (hs : s.length ≤ 4096) (n : Nat) (hg : getList s = some (wFinish :: t, n)) : Calls Tryd.prog 17 #[.string ⟨s.toArray⟩] w (RetDec (decE s) w) := by
  have B0 := Lib.hid (below_new w (.cells #[.int .i64 0, .int .i64 0, .slice none 0 0] 24))
  have HL := Lib.hid (retL_some (getList_any ⟨s.toArray⟩ (w.alloc (.cells #[.int .i64 0, .int .i64 0, .slice none 0 0] 24)) (by rw [size_mk]; omega)) hg)
  have HD := Lib.hid (decE_read hg)
  have hlen := (getList_len hg).1
  have HE := Lib.hid he
  have HR := Lib.hid (O3.new w (.int .i64 0) (.int .i64 0) (.slice none 0 0) 24)
  clear hg he
  go_enter Tryd.func17, Tryd.ntmps17
  go_wp2_with fail
  refine HL.out.mono ?_
  rintro e w1 ⟨⟨A, c, rfl, r1, hc⟩, b1⟩
  have B1 := Lib.hid (bon B0.out b1)
  have HR1 := Lib.hid (HR.out.below b1)
  obtain ⟨g, o, rfl, hgl, hcc⟩ := r1.cells (by simp [strC])
  have a0 : w1.cell? ⟨g, o, none⟩ = some (.string ⟨#[102, 105, 110, 105, 115, 104]⟩) := by simpa [strC, wFinish] using hcc 0 _ rfl
  have hc' : t.length + 1 ≤ c := hc
  simp only [List.length_cons] at hlen ⊢
  have hc2 : (1 : Int) ≤ (c : Int) := by omega
  have hn1 := HR1.out.lt
  have B3 := Lib.hid (B1.out.alloc B1.out.size (.cells #[.int .i64 3, .int .i64 0, .slice none 0 0] 24))
  have HR3 := Lib.hid (HR1.out.below (below_new w1 (.cells #[.int .i64 3, .int .i64 0, .slice none 0 0] 24)))
  have HO3 := Lib.hid (O3.new w1 (.int .i64 3) (.int .i64 0) (.slice none 0 0) 24)
  clear b1 r1 hcc hc
  have htc : t.length + 1 ≠ 0 := by omega
  by_cases hc1 : c = 1
  · subst hc1
    obtain rfl : t = [] := List.eq_nil_of_length_eq_zero (by omega)
    go_wp2_with fail
    generalize w1.alloc (.cells #[.int .i64 3, .int .i64 0, .slice none 0 0] 24) = wx at B3 HR3 HO3 ⊢
    have HQ3 := Lib.hid (rqIn_nil wx)
    have HVal := enValid_any 3 0 [] none 0 wx HQ3.out
    by_cases hv : vEn ⟨3, 0, []⟩ = 0
    · rw [hv] at HVal
      refine HVal.mono ?_
      rintro e w3 ⟨rfl, b3⟩
      have B4 := Lib.hid (bon B3.out b3)
      have HR4 := Lib.hid (HR3.out.below b3)
      have HO4 := Lib.hid (HO3.out.below b3)
      have HQ4 := Lib.hid (HQ3.out.below b3)
      obtain ⟨hlt4, p0, p1, p2, f0, f1, f2⟩ := HO4.out
      clear b3
      go_wp2_with fail
      have HVl := value_any 3 0 [] none 0 w3 (HE.out.below B4.out) HQ4.out (by simp) (by intro r hr; simp at hr) ⟨by decide, by decide⟩
      by_cases hq : valE ⟨3, 0, []⟩ = s
      · rw [hq] at HVl
        refine HVl.mono ?_
        rintro e w4 ⟨rfl, b4⟩
        have B5 := Lib.hid (bon B4.out b4)
        have HR5 := Lib.hid (HR4.out.below b4)
        have HO5 := Lib.hid (HO4.out.below b4)
        have HQ5 := Lib.hid (HQ4.out.below b4)
        have HY : Hid (decE s = some ⟨3, 0, []⟩) := Lib.hid (by rw [HD.out, readE_finish, if_pos ⟨hv, hq⟩])
        clear b4 p0 p1 p2 f0 f1 f2 hv hq
        obtain ⟨hlt5, p0, p1, p2, f0, f1, f2⟩ := HO5.out
        obtain ⟨hlt6, r0, r1, r2, s0, s1, s2⟩ := HR5.out
        go_wp2_with fail
        refine bodyPost_ret (v := .tuple #[.agg #[.int .i64 3, .int .i64 0, .slice none 0 0], .int .i64 0]) (by simp [results, Tryd.results17, go_sem, r0, r1, r2]) rfl (ret_d_some HY.out (((B5.out.setCell (Nat.le_refl _) _).setCell (Nat.le_refl _) _).setCell (Nat.le_refl _) _) rfl ?_)
        exact rqIn_sets HQ5.out (fun a h => by cases h) _ _ _
      · have HY : Hid (decE s = none) := Lib.hid (by rw [HD.out, readE_finish, if_neg (fun h => hq h.2)])
        have hq1 : (valE ⟨3, 0, []⟩ == s) = false := by simpa using hq
        generalize valE ⟨3, 0, []⟩ = v at HVl hq1 hq
        refine HVl.mono ?_
        rintro e w4 ⟨rfl, b4⟩
        have B5 := Lib.hid (bon B4.out b4)
        have HR5 := Lib.hid (HR4.out.below b4)
        clear b4 p0 p1 p2 f0 f1 f2 hv hq
        obtain ⟨hlt6, r0, r1, r2, s0, s1, s2⟩ := HR5.out
        go_wp2_with fail
        exact bodyPost_ret (v := .tuple #[.agg #[.int .i64 0, .int .i64 0, .slice none 0 0], .int .i64 2]) (by simp [results, Tryd.results17, go_sem, r0, r1, r2]) rfl (ret_d_none HY.out (((B5.out.setCell (Nat.le_refl _) _).setCell (Nat.le_refl _) _).setCell (Nat.le_refl _) _))
    · have HY : Hid (decE s = none) := Lib.hid (by rw [HD.out, readE_finish, if_neg (fun h => hv h.1)])
      generalize vEn ⟨3, 0, []⟩ = v at HVal hv
      have hv1 : (v == 0) = false := by simpa using hv
      have hv2 : (v != 0) = true := by simpa using hv
      refine HVal.mono ?_
      rintro e w3 ⟨rfl, b3⟩
      have B4 := Lib.hid (bon B3.out b3)
      have HR4 := Lib.hid (HR3.out.below b3)
      clear b3 hv
      obtain ⟨hlt6, r0, r1, r2, s0, s1, s2⟩ := HR4.out
      go_wp2_with fail
      exact bodyPost_ret (v := .tuple #[.agg #[.int .i64 0, .int .i64 0, .slice none 0 0], .int .i64 2]) (by simp [results, Tryd.results17, go_sem, r0, r1, r2]) rfl (ret_d_none HY.out (((B4.out.setCell (Nat.le_refl _) _).setCell (Nat.le_refl _) _).setCell (Nat.le_refl _) _))
  · go_wp2_with fail
    generalize w1.alloc (.cells #[.int .i64 3, .int .i64 0, .slice none 0 0] 24) = wx at B3 HR3 HO3 ⊢
    have HQ3 := Lib.hid (rqIn_nil wx)
    have HVal := enValid_any 3 0 [] none 0 wx HQ3.out
    by_cases hv : vEn ⟨3, 0, []⟩ = 0
    · rw [hv] at HVal
      refine HVal.mono ?_
      rintro e w3 ⟨rfl, b3⟩
      have B4 := Lib.hid (bon B3.out b3)
      have HR4 := Lib.hid (HR3.out.below b3)
      have HO4 := Lib.hid (HO3.out.below b3)
      have HQ4 := Lib.hid (HQ3.out.below b3)
      obtain ⟨hlt4, p0, p1, p2, f0, f1, f2⟩ := HO4.out
      clear b3
      go_wp2_with fail
      have HVl := value_any 3 0 [] none 0 w3 (HE.out.below B4.out) HQ4.out (by simp) (by intro r hr; simp at hr) ⟨by decide, by decide⟩
      by_cases hq : valE ⟨3, 0, []⟩ = s
      · rw [hq] at HVl
        refine HVl.mono ?_
        rintro e w4 ⟨rfl, b4⟩
        have B5 := Lib.hid (bon B4.out b4)
        have HR5 := Lib.hid (HR4.out.below b4)
        have HO5 := Lib.hid (HO4.out.below b4)
        have HQ5 := Lib.hid (HQ4.out.below b4)
        have HY : Hid (decE s = some ⟨3, 0, []⟩) := Lib.hid (by rw [HD.out, readE_finish, if_pos ⟨hv, hq⟩])
        clear b4 p0 p1 p2 f0 f1 f2 hv hq
        obtain ⟨hlt5, p0, p1, p2, f0, f1, f2⟩ := HO5.out
        obtain ⟨hlt6, r0, r1, r2, s0, s1, s2⟩ := HR5.out
        go_wp2_with fail
        refine bodyPost_ret (v := .tuple #[.agg #[.int .i64 3, .int .i64 0, .slice none 0 0], .int .i64 0]) (by simp [results, Tryd.results17, go_sem, r0, r1, r2]) rfl (ret_d_some HY.out (((B5.out.setCell (Nat.le_refl _) _).setCell (Nat.le_refl _) _).setCell (Nat.le_refl _) _) rfl ?_)
        exact rqIn_sets HQ5.out (fun a h => by cases h) _ _ _
      · have HY : Hid (decE s = none) := Lib.hid (by rw [HD.out, readE_finish, if_neg (fun h => hq h.2)])
        have hq1 : (valE ⟨3, 0, []⟩ == s) = false := by simpa using hq
        generalize valE ⟨3, 0, []⟩ = v at HVl hq1 hq
        refine HVl.mono ?_
        rintro e w4 ⟨rfl, b4⟩
        have B5 := Lib.hid (bon B4.out b4)
        have HR5 := Lib.hid (HR4.out.below b4)
        clear b4 p0 p1 p2 f0 f1 f2 hv hq
        obtain ⟨hlt6, r0, r1, r2, s0, s1, s2⟩ := HR5.out
        go_wp2_with fail
        exact bodyPost_ret (v := .tuple #[.agg #[.int .i64 0, .int .i64 0, .slice none 0 0], .int .i64 2]) (by simp [results, Tryd.results17, go_sem, r0, r1, r2]) rfl (ret_d_none HY.out (((B5.out.setCell (Nat.le_refl _) _).setCell (Nat.le_refl _) _).setCell (Nat.le_refl _) _))
    · have HY : Hid (decE s = none) := Lib.hid (by rw [HD.out, readE_finish, if_neg (fun h => hv h.1)])
      generalize vEn ⟨3, 0, []⟩ = v at HVal hv
      have hv1 : (v == 0) = false := by simpa using hv
      have hv2 : (v != 0) = true := by simpa using hv
      refine HVal.mono ?_
      rintro e w3 ⟨rfl, b3⟩
      have B4 := Lib.hid (bon B3.out b3)
      have HR4 := Lib.hid (HR3.out.below b3)
      clear b3 hv
      obtain ⟨hlt6, r0, r1, r2, s0, s1, s2⟩ := HR4.out
      go_wp2_with fail
      exact bodyPost_ret (v := .tuple #[.agg #[.int .i64 0, .int .i64 0, .slice none 0 0], .int .i64 2]) (by simp [results, Tryd.results17, go_sem, r0, r1, r2]) rfl (ret_d_none HY.out (((B4.out.setCell (Nat.le_refl _) _).setCell (Nat.le_refl _) _).setCell (Nat.le_refl _) _))
end Go.Proofs.YthmoplkleopahaaDoor
