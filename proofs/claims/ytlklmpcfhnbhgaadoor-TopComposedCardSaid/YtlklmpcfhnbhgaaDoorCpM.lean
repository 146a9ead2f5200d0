/- The contract of expr.Equivalent. -/
import Derived.Test.YtlklmpcfhnbhgaaDoorCpL
namespace Go.Proofs.YtlklmpcfhnbhgaaDoor
open Go.RowKit Go.Shelf
attribute [local go_sem] Oper.semAt_some

theorem Ex.kc {x : Ex} {A B : World} (h : KC A B) (hx : x.ok A) : x.ok B := ⟨h.rd hx.1, hx.2.1, fun n hn => h.rd (hx.2.2 n hn)⟩
theorem kc_own (B : Nat) (w6 : World) : OwnFrom B (fun (_ : List U16) W => KC w6 W) := fun _ A C row hs hg hr => hs.trans ⟨hg.size, fun k o hk hc => by
  refine (hg.block k (Array.getElem?_eq_some_iff.1 hk).1 (fun e => ?_)).trans hk
  obtain ⟨_, o', ho', hn⟩ := hr k e.symm
  rw [hk] at ho'
  cases ho'
  rw [hc] at hn
  cases hn⟩
theorem two_bools (b1 b2 : Bool) (h : ¬ b1 = b2) : (b1 = true ∧ b2 = false) ∨ (b1 = false ∧ b2 = true) := by cases b1 <;> cases b2 <;> simp_all
theorem ko_below {A B : World} (h : Below A.heap.size A B) : KeepsOthers A B := KeepsOthers.of_grownBy (grown_below h none) (by intro _ _ e; simp at e)
theorem body_end {w w6 W w7 : World} (hk : KC w6 W) (hb : Below w.heap.size w W) (b7 : Below W.heap.size W w7) : KeepsOthers W w7 ∧ KC W w7 ∧ (KC w6 w7 ∧ Below w.heap.size w w7) :=
  ⟨ko_below b7, KC.below b7, hk.trans (KC.below b7), bon hb b7⟩
theorem body_ret {x y : Ex} {w W w7 : World} (hne : ¬ ∀ s, hold s x.pr = hold s y.pr) (hb : Below w.heap.size w W) (b7 : Below W.heap.size W w7) (h4 : Vr w7 (w.heap.size + 1 + 1) [.bool false]) (h5 : Vr w7 (w.heap.size + 1 + 1 + 1) [.int .i64 0]) :
    KeepsOthers W ((w7.setCell ⟨w.heap.size + 1 + 1, 0, none⟩ (.bool false)).setCell ⟨w.heap.size + 1 + 1 + 1, 0, none⟩ (.int .i64 0)) ∧ ((Code.ret = Code.ret ∧ (¬ ∀ s, hold s x.pr = hold s y.pr) ∧ ((w7.setCell ⟨w.heap.size + 1 + 1, 0, none⟩ (.bool false)).setCell ⟨w.heap.size + 1 + 1 + 1, 0, none⟩ (.int .i64 0)).cell? ⟨w.heap.size + 1 + 1, 0, none⟩ = some (.bool false) ∧
      ((w7.setCell ⟨w.heap.size + 1 + 1, 0, none⟩ (.bool false)).setCell ⟨w.heap.size + 1 + 1 + 1, 0, none⟩ (.int .i64 0)).cell? ⟨w.heap.size + 1 + 1 + 1, 0, none⟩ = some (.int .i64 0)) ∧ Below w.heap.size w ((w7.setCell ⟨w.heap.size + 1 + 1, 0, none⟩ (.bool false)).setCell ⟨w.heap.size + 1 + 1 + 1, 0, none⟩ (.int .i64 0))) := by
  have v4 := (h4.set 0 (.bool false)).grown (grown_set _ ⟨w.heap.size + 1 + 1 + 1, 0, none⟩ (.int .i64 0)) (by simp)
  have v5 := (h5.grown (grown_set w7 ⟨w.heap.size + 1 + 1, 0, none⟩ (.bool false)) (by simp)).set 0 (.int .i64 0)
  refine ⟨((ko_below b7).trans (KeepsOthers.setCell _ _ _)).trans (KeepsOthers.setCell _ _ _), ⟨rfl, hne, v4.cells 0 _ rfl, v5.cells 0 _ rfl⟩, ((bon hb b7).setCell (by show w.heap.size ≤ w.heap.size + 1 + 1; omega) _).setCell (by show w.heap.size ≤ w.heap.size + 1 + 1 + 1; omega) _⟩
set_option maxRecDepth 100000 in
set_option maxHeartbeats 8000000 in
theorem equiv_any (x y : Ex) (w : World) (hvx : VX x.lg x.root) (hvy : VX y.lg y.root) (hx : x.ok w) (hy : y.ok w) (ht : Tb w) :
    Calls Tryd.prog 7 #[.agg #[.slice x.nodes.a x.nodes.l.length x.nodes.c, .int .i64 (x.root : Int)], .agg #[.slice y.nodes.a y.nodes.l.length y.nodes.c, .int .i64 (y.root : Int)]] w
      (fun e w' => (∃ b, e = .returned (.tuple #[.bool b, .int .i64 0]) ∧ ((∀ s, hold s x.pr = hold s y.pr) → b = true)) ∧ Below w.heap.size w w') := by
  obtain ⟨wa, hwa⟩ : ∃ wa, wa = (((w.alloc (.cells #[.slice x.nodes.a x.nodes.l.length x.nodes.c, .int .i64 (x.root : Int)] 25)).alloc (.cells #[.slice y.nodes.a y.nodes.l.length y.nodes.c, .int .i64 (y.root : Int)] 25)).alloc (.cells #[.bool false] 4)).alloc (.cells #[.int .i64 0] 26) := ⟨_, rfl⟩
  have hba : Below w.heap.size w wa := by rw [hwa]; exact bon (bon (bon (below_new w _) (below_new _ _)) (below_new _ _)) (below_new _ _)
  have hcx : Vr wa w.heap.size (exC x) := by rw [hwa]; exact (((Vr.new w _ _).below (below_new _ _)).below (below_new _ _)).below (below_new _ _)
  have hcy : Vr wa (w.heap.size + 1) (exC y) := by
    rw [hwa]
    have := ((Vr.new (w.alloc (.cells #[.slice x.nodes.a x.nodes.l.length x.nodes.c, .int .i64 (x.root : Int)] 25)) (exC y) 25).below (below_new _ (.cells #[.bool false] 4))).below (below_new _ (.cells #[.int .i64 0] 26))
    rwa [World.size_alloc] at this
  have hc4 : Vr wa (w.heap.size + 1 + 1) [.bool false] := by
    rw [hwa]
    have := (Vr.new ((w.alloc (.cells #[.slice x.nodes.a x.nodes.l.length x.nodes.c, .int .i64 (x.root : Int)] 25)).alloc (.cells #[.slice y.nodes.a y.nodes.l.length y.nodes.c, .int .i64 (y.root : Int)] 25)) [.bool false] 4).below (below_new _ (.cells #[.int .i64 0] 26))
    rwa [World.size_alloc, World.size_alloc] at this
  have hc5 : Vr wa (w.heap.size + 1 + 1 + 1) [.int .i64 0] := by
    rw [hwa]
    have := Vr.new (((w.alloc (.cells #[.slice x.nodes.a x.nodes.l.length x.nodes.c, .int .i64 (x.root : Int)] 25)).alloc (.cells #[.slice y.nodes.a y.nodes.l.length y.nodes.c, .int .i64 (y.root : Int)] 25)).alloc (.cells #[.bool false] 4)) [.int .i64 0] 26
    rwa [World.size_alloc, World.size_alloc, World.size_alloc] at this
  have HBa := Lib.hid hba
  have HCx := Lib.hid hcx
  have HCy := Lib.hid hcy
  have HC4 := Lib.hid hc4
  have HC5 := Lib.hid hc5
  have HWa := Lib.hid hwa
  have HX : Hid (VX x.lg x.root ∧ x.ok w) := Lib.hid ⟨hvx, hx⟩
  have HY : Hid (VX y.lg y.root ∧ y.ok w) := Lib.hid ⟨hvy, hy⟩
  have HT := Lib.hid ht
  clear hwa hba hcx hcy hc4 hc5 hvx hvy hx hy ht
  refine callsIn_wide (n := 5).1 (callsIn_of_wp_marks Tryd.func7 rfl trivial (wpIn_wide.2 ?_) rfl)
  simp only [Tryd.ntmps7, List.size_toArray, List.length_cons, List.length_nil, Nat.reduceAdd, Nat.reduceSub, Array.replicate_succ, Array.replicate_zero, List.push_toArray, List.append_toArray, List.nil_append, List.cons_append]
  go_upto_region 1 with fail
  rw [← HWa.out]
  have x0 := HCx.out.cells 0 _ rfl
  have x1 := HCx.out.cells 1 _ rfl
  have lx := HCx.out.lt
  have y0 := HCy.out.cells 0 _ rfl
  have y1 := HCy.out.cells 1 _ rfl
  have ly := HCy.out.lt
  go_wp2_with fail
  obtain ⟨wb, hwb⟩ : ∃ wb, wb = wa.alloc (.cells #[.slice x.nodes.a x.nodes.l.length x.nodes.c, .int .i64 (x.root : Int), .slice y.nodes.a y.nodes.l.length y.nodes.c, .int .i64 (y.root : Int)] 25) := ⟨_, rfl⟩
  obtain ⟨q, hq⟩ : ∃ q, q = wa.heap.size := ⟨_, rfl⟩
  have HBb : Hid (Below w.heap.size w wb) := Lib.hid (by rw [hwb]; exact bon HBa.out (below_new _ _))
  have HQb : Hid (Vr wb q [.slice x.nodes.a x.nodes.l.length x.nodes.c, .int .i64 (x.root : Int), .slice y.nodes.a y.nodes.l.length y.nodes.c, .int .i64 (y.root : Int)]) := Lib.hid (by rw [hwb, hq]; exact Vr.new wa _ _)
  have HXb : Hid (Vr wb w.heap.size (exC x)) := Lib.hid (by rw [hwb]; exact HCx.out.below (below_new _ _))
  have HYb : Hid (Vr wb (w.heap.size + 1) (exC y)) := Lib.hid (by rw [hwb]; exact HCy.out.below (below_new _ _))
  have H4b : Hid (Vr wb (w.heap.size + 1 + 1) [.bool false]) := Lib.hid (by rw [hwb]; exact HC4.out.below (below_new _ _))
  have H5b : Hid (Vr wb (w.heap.size + 1 + 1 + 1) [.int .i64 0]) := Lib.hid (by rw [hwb]; exact HC5.out.below (below_new _ _))
  rw [← hwb, ← hq]
  clear hwb hq HBa HCx HCy HC4 HC5 HWa x0 x1 lx y0 y1 ly
  go_loopw [14] (fun i wr => ∃ k : Nat, i = .int .i64 k ∧ k ≤ 2 ∧ Below wb.heap.size wb wr) (fun i _ => 2 - (intOf i).toNat)
  case atStart => exact ⟨0, rfl, by omega, Below.refl _ _⟩
  case round =>
    obtain ⟨k, rfl, hk, hbr⟩ := hrel
    have HBr := Lib.hid hbr
    clear hbr
    by_cases hk2 : k < 2
    · have q0 := (HQb.out.below HBr.out).cells 0 _ rfl
      have q1 := (HQb.out.below HBr.out).cells 1 _ rfl
      have q2 := (HQb.out.below HBr.out).cells 2 _ rfl
      have q3 := (HQb.out.below HBr.out).cells 3 _ rfl
      have lq := (HQb.out.below HBr.out).lt
      obtain rfl | rfl : k = 0 ∨ k = 1 := by omega
      · have HV := Lib.hid (valid_any x (wr.alloc (.cells #[.slice x.nodes.a x.nodes.l.length x.nodes.c, .int .i64 (x.root : Int)] 25)) HX.out.1 (Ex.below HX.out.2 (bon (bon HBb.out HBr.out) (below_new _ _))))
        go_wp2_with fail
        refine HV.out.mono ?_
        rintro e w3 ⟨rfl, b3⟩
        have HB3 := Lib.hid (bon (bon HBr.out (below_new _ _)) b3)
        clear b3
        go_wp2_with fail
        go_roundw
        case rel => exact ⟨1, rfl, by omega, HB3.out⟩
        case measure => simp [intOf]
      · have HV := Lib.hid (valid_any y (wr.alloc (.cells #[.slice y.nodes.a y.nodes.l.length y.nodes.c, .int .i64 (y.root : Int)] 25)) HY.out.1 (Ex.below HY.out.2 (bon (bon HBb.out HBr.out) (below_new _ _))))
        go_wp2_with fail
        refine HV.out.mono ?_
        rintro e w3 ⟨rfl, b3⟩
        have HB3 := Lib.hid (bon (bon HBr.out (below_new _ _)) b3)
        clear b3
        go_wp2_with fail
        go_roundw
        case rel => exact ⟨2, rfl, by omega, HB3.out⟩
        case measure => simp [intOf]
    · obtain rfl : k = 2 := by omega
      have HBw := Lib.hid (bon HBb.out HBr.out)
      have HXr := Lib.hid (HXb.out.below HBr.out)
      have HYr := Lib.hid (HYb.out.below HBr.out)
      have H4r := Lib.hid (H4b.out.below HBr.out)
      have H5r := Lib.hid (H5b.out.below HBr.out)
      have HKeep : Hid (∀ W, Below wr.heap.size wr W → W.cell? ⟨w.heap.size, 0, none⟩ = some (.slice x.nodes.a x.nodes.l.length x.nodes.c) ∧ W.cell? ⟨w.heap.size, 1, none⟩ = some (.int .i64 (x.root : Int)) ∧ W.cell? ⟨w.heap.size + 1, 0, none⟩ = some (.slice y.nodes.a y.nodes.l.length y.nodes.c) ∧ W.cell? ⟨w.heap.size + 1, 1, none⟩ = some (.int .i64 (y.root : Int))) := Lib.hid (fun W hW =>
        ⟨(HXr.out.below hW).cells 0 _ rfl, (HXr.out.below hW).cells 1 _ rfl, (HYr.out.below hW).cells 0 _ rfl, (HYr.out.below hW).cells 1 _ rfl⟩)
      have HS : Hid (∀ z : Ex, (z = x ∨ z = y) → ∀ W, Below wr.heap.size wr W → Calls Tryd.prog 19 #[.agg #[.slice z.nodes.a z.nodes.l.length z.nodes.c, .int .i64 (z.root : Int)]] W (fun e w' => (∃ v : Nat, v < 65536 ∧ e = .returned (.int .u16 (v : Int))) ∧ Below wr.heap.size wr w')) := Lib.hid (fun z hz W hW => by
        rcases hz with rfl | rfl
        · exact (exServers_any z W HX.out.1 (Ex.below HX.out.2 (bon HBw.out hW))).mono fun _ _ ⟨a, b⟩ => ⟨a, bon hW b⟩
        · exact (exServers_any z W HY.out.1 (Ex.below HY.out.2 (bon HBw.out hW))).mono fun _ _ ⟨a, b⟩ => ⟨a, bon hW b⟩)
      obtain ⟨z0, z1, z2, z3⟩ := HKeep.out wr (Below.refl _ _)
      have lx := HXr.out.lt
      have ly := HYr.out.lt
      have hbr0 : Below wr.heap.size wr wr := Below.refl _ _
      go_wp2_with fail
      go_region_held3 (fun W => W.cell? ⟨w.heap.size, 0, none⟩ = some (.slice x.nodes.a x.nodes.l.length x.nodes.c) ∧ W.cell? ⟨w.heap.size, 1, none⟩ = some (.int .i64 (x.root : Int)) ∧ W.cell? ⟨w.heap.size + 1, 0, none⟩ = some (.slice y.nodes.a y.nodes.l.length y.nodes.c) ∧ W.cell? ⟨w.heap.size + 1, 1, none⟩ = some (.int .i64 (y.root : Int)))
        (first | exact HKeep.out _ (Below.drew ‹Below wr.heap.size wr _›) | exact HKeep.out _ ‹Below wr.heap.size wr _› | exact HKeep.out _ (Below.alloc ‹Below wr.heap.size wr _› (Below.size ‹Below wr.heap.size wr _›) _))
        (first
          | (go_at_call 19; refine (HS.out _ (by first | exact .inl rfl | exact .inr rfl) _ (by first | assumption | exact Below.drew ‹Below wr.heap.size wr _›)).mono ?_; rintro e w3 ⟨⟨v, hv, rfl⟩, b3⟩)
          | (go_at_call 18; refine (subs_any _ _).mono ?_; rintro e w5 ⟨rfl, rfl⟩))
      rename_i w30 b30 v0 hv0 hS6
      clear hS6 b30 hbr0 z0 z1 z2 z3
      go_wp2_with fail
      obtain ⟨E, hE1, hE2⟩ := or_u16 (v0 : Int) (v : Int)
      simp only [hE2]
      have hb6 := below_new w3 (.cells #[.int .u16 (E : Int)] 51)
      have hc6 : (w3.alloc (.cells #[.int .u16 (E : Int)] 51)).cell? ⟨w3.heap.size, 0, none⟩ = some (.int .u16 (E : Int)) := by simp
      have hl6 : w3.heap.size < (w3.alloc (.cells #[.int .u16 (E : Int)] 51)).heap.size := by simp
      obtain ⟨g, hg⟩ : ∃ g, g = w3.heap.size := ⟨_, rfl⟩
      rw [← hg] at hc6 hl6 ⊢
      have HB6 := Lib.hid (bon b3 hb6)
      generalize w3.alloc (.cells #[.int .u16 (E : Int)] 51) = w6 at hb6 hc6 hl6 HB6 ⊢
      have HBw6 := Lib.hid (bon HBw.out HB6.out)
      have HX6 := Lib.hid (HXr.out.below HB6.out)
      have HY6 := Lib.hid (HYr.out.below HB6.out)
      have H46 := Lib.hid (H4r.out.below HB6.out)
      have H56 := Lib.hid (H5r.out.below HB6.out)
      have HT6 := Lib.hid (HT.out.below HBw6.out)
      clear hb6 b3 hg
      refine wpIn_wide.1 (wpIn_rangeFunc_ownF (n := 5) (gf := 31) (lb := #[.pointer (some ⟨g, 0, none⟩)]) rfl (by decide) rfl trivial (enters_of Tryd.func31 (by kernel_rfl) rfl)
        (subs_stops (5 - 1) g E w6 hl6 hc6 hE1 HT6.out) KC.trans (fun W l o o' _ hl ho _ => KC.putObj W l o o' hl ho) (Below.refl _ _) (fun _ => rfl)
        (fun _ W => KC w6 W ∧ Below w.heap.size w W) (fun c _ W => (c = .ret ∧ (¬ ∀ s, hold s x.pr = hold s y.pr) ∧ W.cell? ⟨w.heap.size + 1 + 1, 0, none⟩ = some (.bool false) ∧ W.cell? ⟨w.heap.size + 1 + 1 + 1, 0, none⟩ = some (.int .i64 0)) ∧ Below w.heap.size w W) (OwnFrom.and (kc_own _ w6) (ownFrom_below (Nat.le_refl _) HBw6.out.size)) (fun c => OwnFrom.and (Own.from (fun s A B row hs hg hr => ⟨hs.1, hs.2.1, cell_kept hs.2.2.1 hg hr, cell_kept hs.2.2.2 hg hr⟩) _) (ownFrom_below (Nat.le_refl _) HBw6.out.size)) ⟨KC.refl _, HBw6.out⟩
        (fun z => { tmps := #[.agg #[.slice x.nodes.a x.nodes.l.length x.nodes.c, .int .i64 (x.root : Int)], .agg #[.slice y.nodes.a y.nodes.l.length y.nodes.c, .int .i64 (y.root : Int)], .pointer (some ⟨w.heap.size, 0, none⟩), .pointer (some ⟨w.heap.size + 1, 0, none⟩), .pointer (some ⟨w.heap.size + 1 + 1, 0, none⟩), .pointer (some ⟨w.heap.size + 1 + 1 + 1, 0, none⟩), undef, u7, u8, .int .u16 (z.1 : Int),
          .agg #[.slice x.nodes.a x.nodes.l.length x.nodes.c, .int .i64 (x.root : Int)], .agg #[.slice y.nodes.a y.nodes.l.length y.nodes.c, .int .i64 (y.root : Int)], .slice (some ⟨q, 0, none⟩) 2 2, .int .i64 2, .int .i64 2, .bool false, u16, u17, u18, u19, u20, u21, u22, u23,
          .agg #[.slice x.nodes.a x.nodes.l.length x.nodes.c, .int .i64 (x.root : Int)], .int .u16 (v0 : Int), .agg #[.slice y.nodes.a y.nodes.l.length y.nodes.c, .int .i64 (y.root : Int)], .int .u16 (v : Int), .int .u16 (E : Int), .func (.func 31) #[] #[.pointer (some ⟨g, 0, none⟩)], .int .u16 (z.1 : Int), undef, undef, undef, undef, undef, undef, undef], defers := [] })
        ?assign ?body ?done ?stop)
      case assign =>
        intro l z W K hK
        gi_wp2
        exact hK
      case body =>
        rintro l pre z W ⟨hk, hb⟩ _
        have HK := Lib.hid hk
        have HB := Lib.hid hb
        have hX := hk.vr HX6.out (by simp [exC])
        have hY := hk.vr HY6.out (by simp [exC])
        have x0 := hX.cells 0 _ rfl
        have x1 := hX.cells 1 _ rfl
        have lx := hX.lt
        have y0 := hY.cells 0 _ rfl
        have y1 := hY.cells 1 _ rfl
        have ly := hY.lt
        have hdd : ∀ k : Nat, ((Fence.wide.inRound l).depth.isSome = true → 1 ≤ k) := fun k h => by cases h
        obtain ⟨b1, hb1⟩ : ∃ b, b = hold z.1 x.pr := ⟨_, rfl⟩
        obtain ⟨b2, hb2⟩ : ∃ b, b = hold z.1 y.pr := ⟨_, rfl⟩
        have HSh : Hid (∀ (z' : Ex) (b' : Bool), ((z' = x ∧ b' = b1) ∨ (z' = y ∧ b' = b2)) → ∀ (m : Nat) W', Below W.heap.size W W' → CallsIn (Fence.wide.inRound l) m Tryd.prog 20 #[.agg #[.slice z'.nodes.a z'.nodes.l.length z'.nodes.c, .int .i64 (z'.root : Int)], .int .u16 (z.1 : Int)] W' (fun e w' => e = .returned (.bool b') ∧ Below W.heap.size W w' ∧
            w'.cell? ⟨w.heap.size, 0, none⟩ = some (.slice x.nodes.a x.nodes.l.length x.nodes.c) ∧ w'.cell? ⟨w.heap.size, 1, none⟩ = some (.int .i64 (x.root : Int)) ∧ w'.cell? ⟨w.heap.size + 1, 0, none⟩ = some (.slice y.nodes.a y.nodes.l.length y.nodes.c) ∧ w'.cell? ⟨w.heap.size + 1, 1, none⟩ = some (.int .i64 (y.root : Int)))) := Lib.hid (fun z' b' hz m W' hW => by
          have hok : z'.ok W' := by
            rcases hz with ⟨rfl, _⟩ | ⟨rfl, _⟩
            · exact Ex.below HX.out.2 (bon HB.out hW)
            · exact Ex.below HY.out.2 (bon HB.out hW)
          have hvv : VX z'.lg z'.root := by
            rcases hz with ⟨rfl, _⟩ | ⟨rfl, _⟩
            · exact HX.out.1
            · exact HY.out.1
          have he : hold z.1 z'.pr = b' := by
            rcases hz with ⟨rfl, rfl⟩ | ⟨rfl, rfl⟩
            · exact hb1.symm
            · exact hb2.symm
          refine (CallsIn.inRound l (callsIn_wide.2 (holds_any z' z.1 W' hvv hok z.2))).mono ?_
          rintro e w' ⟨rfl, hb'⟩
          have hbw := bon hW hb'
          have kX := ((HK.out.trans (KC.below hbw)).vr HX6.out (by simp [exC]))
          have kY := ((HK.out.trans (KC.below hbw)).vr HY6.out (by simp [exC]))
          exact ⟨by rw [he], hbw, kX.cells 0 _ rfl, kX.cells 1 _ rfl, kY.cells 0 _ rfl, kY.cells 1 _ rfl⟩)
        have hmix : Tryd.prog.follows .mixedOrders = true := by kernel_rfl
        have hbW : Below W.heap.size W W := Below.refl _ _
        clear hX hY hk hb
        have h4 := (HK.out.vr H46.out (by simp))
        have h5 := (HK.out.vr H56.out (by simp))
        have HV4 := Lib.hid h4
        have HV5 := Lib.hid h5
        clear h4 h5
        by_cases hq : b1 = b2
        · subst hq
          clear hb1 hb2
          gi_wp2
          gi_region_with_o ((first | refine ⟨trivial, ?_⟩ | refine ⟨trivial, hdd _, ?_⟩); refine (HSh.out _ _ (by first | exact .inl ⟨rfl, rfl⟩ | exact .inr ⟨rfl, rfl⟩) _ _ (by first | assumption | exact Below.drew ‹Below W.heap.size W _›)).mono ?_; rintro e w7 ⟨rfl, b7, p0, p1, p2, p3⟩)
          all_goals
            clear p0 p1 p2 p3
            gi_wp2
            exact body_end HK.out HB.out b7
        · have HQ := Lib.hid (show ¬ ∀ s, hold s x.pr = hold s y.pr from fun h => hq (hb1.trans ((h z.1).trans hb2.symm)))
          clear hb1 hb2
          have ht := two_bools b1 b2 hq
          clear hq
          rcases ht with ⟨rfl, rfl⟩ | ⟨rfl, rfl⟩
          · gi_wp2
            gi_region_with_o ((first | refine ⟨trivial, ?_⟩ | refine ⟨trivial, hdd _, ?_⟩); refine (HSh.out _ _ (by first | exact .inl ⟨rfl, rfl⟩ | exact .inr ⟨rfl, rfl⟩) _ _ (by first | assumption | exact Below.drew ‹Below W.heap.size W _›)).mono ?_; rintro e w7 ⟨rfl, b7, p0, p1, p2, p3⟩; have hv4 := HV4.out.below b7; have hv5 := HV5.out.below b7; have c74 := hv4.cells 0 _ rfl; have f74 := hv4.free 0 Nat.zero_lt_one; have l74 := hv4.lt; have c75 := hv5.cells 0 _ rfl; have f75 := hv5.free 0 Nat.zero_lt_one; have l75 := hv5.lt)
            all_goals
              clear p0 p1 p2 p3
              gi_wp2
              exact body_ret HQ.out HB.out b7 hv4 hv5
          · gi_wp2
            gi_region_with_o ((first | refine ⟨trivial, ?_⟩ | refine ⟨trivial, hdd _, ?_⟩); refine (HSh.out _ _ (by first | exact .inl ⟨rfl, rfl⟩ | exact .inr ⟨rfl, rfl⟩) _ _ (by first | assumption | exact Below.drew ‹Below W.heap.size W _›)).mono ?_; rintro e w7 ⟨rfl, b7, p0, p1, p2, p3⟩; have hv4 := HV4.out.below b7; have hv5 := HV5.out.below b7; have c74 := hv4.cells 0 _ rfl; have f74 := hv4.free 0 Nat.zero_lt_one; have l74 := hv4.lt; have c75 := hv5.cells 0 _ rfl; have f75 := hv5.free 0 Nat.zero_lt_one; have l75 := hv5.lt)
            all_goals
              clear p0 p1 p2 p3
              gi_wp2
              exact body_ret HQ.out HB.out b7 hv4 hv5
      case done =>
        rintro D xs W hD _ ⟨hk, hb⟩ hKD
        have h4 := hk.vr H46.out (by simp)
        have h5 := hk.vr H56.out (by simp)
        have c40 := h4.cells 0 _ rfl
        have f40 := h4.free 0 (by simp)
        have l40 := h4.lt
        have c50 := h5.cells 0 _ rfl
        have f50 := h5.free 0 (by simp)
        have l50 := h5.lt
        have HB := Lib.hid hb
        clear hk hb h4 h5
        go_wp2
        have hK4 := (KeepsOthers.setCell W ⟨w.heap.size + 1 + 1, 0, none⟩ (.bool true)).same D _ hKD rfl
        have hK5 := (KeepsOthers.setCell (W.setCell ⟨w.heap.size + 1 + 1, 0, none⟩ (.bool true)) ⟨w.heap.size + 1 + 1 + 1, 0, none⟩ (.int .i64 0)).same D _ hK4 rfl
        refine ⟨by simp, .inl ⟨_, _, rfl, run_takeDeferred hK5, ?_⟩⟩
        have d4 : ((W.setCell ⟨w.heap.size + 1 + 1, 0, none⟩ (.bool true)).setCell ⟨w.heap.size + 1 + 1 + 1, 0, none⟩ (.int .i64 0)).cell? ⟨w.heap.size + 1 + 1, 0, none⟩ = some (.bool true) :=
          (World.cell?_setCell_other _ _ _ _ (by simp)).trans (World.cell?_setCell_same _ _ _ c40)
        have d5 : ((W.setCell ⟨w.heap.size + 1 + 1, 0, none⟩ (.bool true)).setCell ⟨w.heap.size + 1 + 1 + 1, 0, none⟩ (.int .i64 0)).cell? ⟨w.heap.size + 1 + 1 + 1, 0, none⟩ = some (.int .i64 0) :=
          World.cell?_setCell_same _ _ _ ((World.cell?_setCell_other _ _ _ _ (by simp)).trans c50)
        have e4 := cell_kept d4 (grownBy_putObj' _ D (.deferred none)) (fun r e => by cases e; exact ⟨_, hK5, rfl⟩)
        have e5 := cell_kept d5 (grownBy_putObj' _ D (.deferred none)) (fun r e => by cases e; exact ⟨_, hK5, rfl⟩)
        refine ⟨.tuple #[.bool true, .int .i64 0], ?_, ⟨true, rfl, fun _ => rfl⟩, ?_⟩
        · simp [results, Tryd.results7, go_sem, e4, e5]
        · exact ((HB.out.setCell (by show w.heap.size ≤ w.heap.size + 1 + 1; omega) _).setCell (by show w.heap.size ≤ w.heap.size + 1 + 1 + 1; omega) _).trans (belowK_b (w := w) (Nat.le_refl _) _ D _ _ (by have := HBw6.out.size; omega) hK5 rfl rfl)
      case stop =>
        rintro D c pre W hD _ ⟨⟨rfl, hne, c4, c5⟩, hb⟩ hKD
        gi_wp2
        refine ⟨by simp, .inl ⟨_, _, rfl, run_takeDeferred hKD, ?_⟩⟩
        have e4 := cell_kept c4 (grownBy_putObj' _ D (.deferred none)) (fun r e => by cases e; exact ⟨_, hKD, rfl⟩)
        have e5 := cell_kept c5 (grownBy_putObj' _ D (.deferred none)) (fun r e => by cases e; exact ⟨_, hKD, rfl⟩)
        refine ⟨.tuple #[.bool false, .int .i64 0], ?_, ⟨false, rfl, fun h => absurd h hne⟩, ?_⟩
        · simp [results, Tryd.results7, go_sem, e4, e5]
        · exact hb.trans (belowK_b (w := w) (Nat.le_refl _) _ D _ _ (by have := HBw6.out.size; omega) hKD rfl rfl)
end Go.Proofs.YtlklmpcfhnbhgaaDoor
