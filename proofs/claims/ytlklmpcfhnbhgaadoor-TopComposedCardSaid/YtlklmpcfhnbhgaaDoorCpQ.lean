/- The contract of build.Compose. -/
import Derived.Test.YtlklmpcfhnbhgaaDoorCpO
namespace Go.Proofs.YtlklmpcfhnbhgaaDoor
open Go.RowKit

theorem exC_one (l : List Ex) : ∀ u ∈ l.flatMap exC, u.oneCell' = true := by
  intro u hu
  obtain ⟨r, _, hr⟩ := List.mem_flatMap.1 hu
  simp only [exC, List.mem_cons, List.not_mem_nil, or_false] at hr
  rcases hr with rfl | rfl <;> rfl
/-- behind the copy of an inner expression -/
def Cl15 (y : Ex) (qt : Nat) (p : Value) (wx : World) : Prop :=
  ∃ (g : Nat) (A : Option Addr) (c : Nat), p = .pointer (some ⟨g, 0, none⟩) ∧ qt < g ∧ Vr wx g [.slice A y.nodes.l.length c, .int .i64 (y.root : Int)] ∧ wx.ownsRow (qt + 1) 41 5 (.slice A y.nodes.l.length c) y.nodes.l.length (y.nodes.l.flatMap ndC) ∧ ∀ b, blk A = some b → b ≠ g
theorem cl15_a {y : Ex} {qt : Nat} {w6 : World} {A : Option Addr} {c : Nat} (h : w6.ownsRow (qt + 1) 41 5 (.slice A y.nodes.l.length c) y.nodes.l.length (y.nodes.l.flatMap ndC)) (hz : qt + 1 ≤ w6.heap.size) :
    Cl15 y qt (.pointer (some ⟨w6.heap.size, 0, none⟩)) (w6.alloc (.cells #[.slice A y.nodes.l.length c, .int .i64 (y.root : Int)] 25)) :=
  ⟨_, A, c, rfl, by omega, Vr.new w6 _ _, ownsRow_below h (below_new _ _), fun b hb => by have := (h.lt b (by rw [blk_own]; exact hb)).2; omega⟩
theorem cl15_b {y : Ex} {qt : Nat} {wt w6 : World} {A : Option Addr} {c : Nat} (hz : wt.heap.size = qt + 1) (h : w6.ownsRow (qt + 1 + 1) 41 5 (.slice A y.nodes.l.length c) y.nodes.l.length (y.nodes.l.flatMap ndC))
    (m0 : w6.cell? ⟨wt.heap.size, 0, none⟩ = some (.slice none 0 0)) (m1 : w6.cell? ⟨wt.heap.size, 1, none⟩ = some (.int .i64 0)) (m2 : w6.frozen? ⟨wt.heap.size, 0, none⟩ = false) (m3 : w6.frozen? ⟨wt.heap.size, 1, none⟩ = false) :
    Cl15 y qt (.pointer (some ⟨wt.heap.size, 0, none⟩)) ((w6.setCell ⟨wt.heap.size, 0, none⟩ (.slice A y.nodes.l.length c)).setCell ⟨wt.heap.size, 1, none⟩ (.int .i64 (y.root : Int))) := by
  have hlt : wt.heap.size < w6.heap.size := by
    obtain ⟨o, ho⟩ : ∃ o, w6.heap[wt.heap.size]? = some o := by
      cases hq : w6.heap[wt.heap.size]? with
      | none => simp [World.cell?, hq] at m0
      | some o => exact ⟨o, rfl⟩
    exact (Array.getElem?_eq_some_iff.1 ho).1
  have hv : Vr w6 wt.heap.size [.slice none 0 0, .int .i64 0] := ⟨hlt, fun j v hj => by
    match j, hj with
    | 0, hj => simp at hj; subst hj; exact m0
    | 1, hj => simp at hj; subst hj; exact m1, fun j hj => by
    match j, hj with
    | 0, _ => exact m2
    | 1, _ => exact m3⟩
  refine ⟨_, A, c, rfl, by omega, ((hv.set 0 _).set 1 _).eq rfl, ownsRow_base (own_far (own_far h _ _ (by show wt.heap.size < qt + 1 + 1; omega)) _ _ (by show wt.heap.size < qt + 1 + 1; omega)) (by omega), fun b hb => by have := (h.lt b (by rw [blk_own]; exact hb)).1; omega⟩
set_option maxRecDepth 100000 in
set_option maxHeartbeats 8000000 in
theorem comp_any (f : Nat) (x : Ex) (xs : Sl Ex) (w : World) (hvx : VX x.lg x.root) (hx : x.ok w) (hxs : Ins w xs) (h0 : 0 < xs.l.length) (hn : xs.l.length ≤ 100) (hsrv : ∀ n ∈ x.lg, n.kind = 1 → n.server < xs.l.length) (htot : tot (xs.l.map Ex.pr) ≤ 12)
    (hsz : size2 (mvs 0 (xs.l.map Ex.pr)) x.pr < 61) (hwk : wok f x.lg x.root (mvs 0 (xs.l.map Ex.pr))) (hlen : (wr f x.lg x.root (mvs 0 (xs.l.map Ex.pr)) []).length ≤ 1000) :
    Calls Tryd.prog 6 #[.agg #[.slice x.nodes.a x.nodes.l.length x.nodes.c, .int .i64 (x.root : Int)], .slice xs.a xs.l.length xs.c] w
      (RetExE (wr f x.lg x.root (mvs 0 (xs.l.map Ex.pr)) [], (wr f x.lg x.root (mvs 0 (xs.l.map Ex.pr)) []).length - 1) w) := by
  obtain ⟨iX, hiX, hzX0, hzX1, hzX2⟩ := info_parts infoX
  have HIX := Lib.hid hiX
  have HZX0 := Lib.hid hzX0
  have HZX1 := Lib.hid hzX1
  have HZX2 := Lib.hid hzX2
  obtain ⟨wa, hwa⟩ : ∃ wa, wa = ((w.alloc (.cells #[.slice x.nodes.a x.nodes.l.length x.nodes.c, .int .i64 (x.root : Int)] 25)).alloc (.cells #[.slice xs.a xs.l.length xs.c] 30)).alloc (.cells #[.slice none 0 0, .int .i64 0] 25) := ⟨_, rfl⟩
  have hba : Below w.heap.size w wa := by rw [hwa]; exact bon (bon (below_new w _) (below_new _ _)) (below_new _ _)
  have hcx : Vr wa w.heap.size (exC x) := by rw [hwa]; exact ((Vr.new w _ _).below (below_new _ _)).below (below_new _ _)
  have hcl : Vr wa (w.heap.size + 1) [.slice xs.a xs.l.length xs.c] := by
    rw [hwa]
    have := (Vr.new (w.alloc (.cells #[.slice x.nodes.a x.nodes.l.length x.nodes.c, .int .i64 (x.root : Int)] 25)) [.slice xs.a xs.l.length xs.c] 30).below (below_new _ (.cells #[.slice none 0 0, .int .i64 0] 25))
    rwa [World.size_alloc] at this
  have hcr : Vr wa (w.heap.size + 1 + 1) [.slice none 0 0, .int .i64 0] := by
    rw [hwa]
    have := Vr.new ((w.alloc (.cells #[.slice x.nodes.a x.nodes.l.length x.nodes.c, .int .i64 (x.root : Int)] 25)).alloc (.cells #[.slice xs.a xs.l.length xs.c] 30)) [.slice none 0 0, .int .i64 0] 25
    rwa [World.size_alloc, World.size_alloc] at this
  have hza : wa.heap.size = w.heap.size + 3 := by rw [hwa]; simp
  obtain ⟨a, ha⟩ : ∃ a, xs.a = some a := by
    obtain ⟨b, o, e, _⟩ := hxs.rd.cells (by rw [flat_len exC 2 exC_len]; omega)
    exact ⟨_, e⟩
  have HOw := Lib.hid (World.ownsRow_lit (base := w.heap.size) (e := 25) (size := 2) wa #[.slice x.nodes.a x.nodes.l.length x.nodes.c, .int .i64 (x.root : Int)] 1 (by omega) (by decide) rfl)
  have HNw : Hid (∀ j u, (xs.l.flatMap exC)[j]? = some u → (wa.alloc (.cells #[.slice x.nodes.a x.nodes.l.length x.nodes.c, .int .i64 (x.root : Int)] 25)).cell? (a.add j) = some u) := Lib.hid (fun j u hu => by
    have hj : j < (xs.l.flatMap exC).length := (List.getElem?_eq_some_iff.1 hu).1
    obtain ⟨b, o, e, hb, hc⟩ := hxs.rd.cells (by omega)
    rw [ha] at e
    simp only [Option.some.injEq] at e
    subst e
    rw [add_plain']
    exact ((bon hba (below_new _ _)).cell (p := ⟨b, o + j, none⟩) hb).trans (hc j u hu))
  have HLn := Lib.hid (flat_len exC 2 exC_len xs.l)
  have HOne := Lib.hid (exC_one xs.l)
  have HWa := Lib.hid hwa
  have HBa := Lib.hid hba
  have HCx := Lib.hid hcx
  have HCl := Lib.hid hcl
  have HCr := Lib.hid hcr
  have HZa := Lib.hid hza
  have HA := Lib.hid ha
  have HX : Hid (VX x.lg x.root ∧ x.ok w) := Lib.hid ⟨hvx, hx⟩
  have HXs := Lib.hid hxs
  have HSrv := Lib.hid hsrv
  have HTot := Lib.hid htot
  have HSz := Lib.hid hsz
  have HWk := Lib.hid hwk
  have HLen := Lib.hid hlen
  clear hiX hzX0 hzX1 hzX2 hwa hba hcx hcl hcr hza ha hvx hx hxs hsrv htot hsz hwk hlen
  go_enter Tryd.func6, Tryd.ntmps6
  go_upto_region 1 with fail
  rw [← HWa.out]
  have x0 := HCx.out.cells 0 _ rfl
  have x1 := HCx.out.cells 1 _ rfl
  have lx := HCx.out.lt
  have l0 := HCl.out.cells 0 _ rfl
  rw [HA.out] at l0
  have ll := HCl.out.lt
  go_wp2_with (at_builtin; refine wpList_append_own _ rfl _ _ 30 rfl w.heap.size 25 iX _ 2 32 Tryd.underlying30 HIX.out HZX0.out HZX1.out HZX2.out rfl (by decide) _ 1 [.slice x.nodes.a x.nodes.l.length x.nodes.c, .int .i64 (x.root : Int)] rfl HOw.out a xs.l.length xs.c (xs.l.flatMap exC) rfl HLn.out HNw.out HOne.out (by simp [maxLen]; omega) (by omega) (by have := HZa.out; simp; omega) ?_)
  intro v' w2 hown' hgrow _
  obtain ⟨A2, c2, hv⟩ := ownsRow_form hown'
  subst hv
  have HRow : Hid (Rd w2 2 A2 (1 + xs.l.length) ((x :: xs.l).flatMap exC)) := Lib.hid (Rd.own hown')
  have HB2 : Hid (Below wa.heap.size wa w2) := Lib.hid (below_grown (below_new wa _) (by simp) hgrow (fun i hi => by simp [Value.ownBlock] at hi; omega))
  clear hown' hgrow x0 x1 lx l0 ll
  go_wp2_with fail
  have HRow2 : Hid (Rd w2 2 A2 (x :: xs.l).length ((x :: xs.l).flatMap exC)) := Lib.hid (by rw [List.length_cons, Nat.add_comm]; exact HRow.out)
  have HZ : Hid (∀ z ∈ x :: xs.l, VX z.lg z.root ∧ z.ok w) := Lib.hid (fun z hz => by
    rcases List.mem_cons.1 hz with rfl | hz
    · exact HX.out
    · exact ⟨(HXs.out.each z hz).2, (HXs.out.each z hz).1⟩)
  clear HRow
  go_loopw [22] (fun i wr => ∃ k : Nat, i = .int .i64 k ∧ k ≤ 1 + xs.l.length ∧ Below w2.heap.size w2 wr) (fun i _ => 1 + xs.l.length - (intOf i).toNat)
  case atStart => exact ⟨0, rfl, by omega, Below.refl _ _⟩
  case round =>
    obtain ⟨k, rfl, hk, hbr⟩ := hrel
    have HBr := Lib.hid hbr
    have HBw := Lib.hid (bon (bon HBa.out HB2.out) hbr)
    clear hbr
    by_cases hlt : k < 1 + xs.l.length
    · have i0' : (0 : Int) ≤ (k : Int) := by omega
      have i1 : (k : Int) < 1 + (xs.l.length : Int) := by omega
      have i1' : (k : Int) < ((1 + xs.l.length : Nat) : Int) := by omega
      have hlt2 : k < (x :: xs.l).length := by rw [List.length_cons]; omega
      obtain ⟨b, o, hAA, hb, hc⟩ := HRow2.out.at exC_len (by omega) hlt2
      have HAA := Lib.hid hAA
      have hrun : ∀ w', Sem.run Tryd.prog (Instr.indexAt 30 (.slice A2 (1 + xs.l.length) c2) (.int .i64 k)) w' = .ok (Value.pointer (some ⟨b, o + k * 2, none⟩)) w' := fun w' => by
        rw [HAA.out]; go_simp
      have hzz := HZ.out _ (List.getElem_mem hlt2)
      obtain ⟨z, hz⟩ : ∃ z, z = (x :: xs.l)[k] := ⟨_, rfl⟩
      rw [← hz] at hc hzz
      have a0 : wr.cell? ⟨b, o + k * 2, none⟩ = some (.slice z.nodes.a z.nodes.l.length z.nodes.c) := by simpa using hc wr HBr.out 0 _ rfl
      have a1 : wr.cell? ⟨b, o + k * 2 + 1, none⟩ = some (.int .i64 (z.root : Int)) := hc wr HBr.out 1 _ rfl
      have HC := Lib.hid (valid_any z (wr.alloc (.cells #[.slice z.nodes.a z.nodes.l.length z.nodes.c, .int .i64 (z.root : Int)] 25)) hzz.1 (Ex.below hzz.2 (bon HBw.out (below_new _ _))))
      clear hAA hc hzz hz hlt2
      go_wp2_with fail
      refine HC.out.mono ?_
      rintro e w3 ⟨rfl, b3⟩
      have HB3 := Lib.hid (bon (bon HBr.out (below_new _ _)) b3)
      clear b3
      go_wp2_with fail
      go_roundw
      case rel => exact ⟨k + 1, by go_num, by omega, HB3.out⟩
      case measure => simp [intOf]; omega
    · obtain rfl : k = 1 + xs.l.length := by omega
      have HBar := Lib.hid (bon HB2.out HBr.out)
      have HXr := Lib.hid (HCx.out.below HBar.out)
      have HLr := Lib.hid (HCl.out.below HBar.out)
      have HRr := Lib.hid (HCr.out.below HBar.out)
      have x0 := HXr.out.cells 0 _ rfl
      have lx := HXr.out.lt
      have HCt := Lib.hid (contBig_any x (w.heap.size + 1) xs.l.length xs.c xs.a wr (Ex.below HX.out.2 HBw.out) HX.out.1 (HLr.out.cells 0 _ rfl) HLr.out.lt HSrv.out)
      go_wp2_with fail
      refine HCt.out.mono ?_
      rintro e w4 ⟨rfl, b4⟩
      have HB4 := Lib.hid (bon HBw.out b4)
      have HX4 := Lib.hid (HXr.out.below b4)
      have HL4 := Lib.hid (HLr.out.below b4)
      have HR4 := Lib.hid (HRr.out.below b4)
      clear b4 x0 lx
      have l0 := HL4.out.cells 0 _ rfl
      have ll := HL4.out.lt
      have hz4 := HR4.out.lt
      go_wp2_with fail
      clear l0 ll
      go_loopw [9, 10, 40] (fun q bs i w5 => ∃ (j : Nat) (q' : Value) (ys : List Ex) (T : Nat), i = .int .i64 j ∧ q' = q ∧ bs = .int .i64 (T : Int) ∧ T = tot ((xs.l.take j).map Ex.pr) ∧ j ≤ xs.l.length ∧ ys.map Ex.pr = mvs 0 ((xs.l.take j).map Ex.pr) ∧ Col 25 2 exC Ex.ok 0 w4.heap.size w q' ys w5 ∧ Below w4.heap.size w4 w5) (fun _ _ i _ => xs.l.length - (intOf i).toNat)
      case atStart => exact ⟨0, _, [], 0, rfl, rfl, rfl, rfl, Nat.zero_le _, rfl, Col.start _ _ _ _ _ _ w w4 HB4.out ⟨HB4.out.size, Nat.le_refl _⟩, Below.refl _ _⟩
      case round =>
        rename World => w5
        obtain ⟨j, qv, ys, T, rfl, rfl, rfl, hT, hj, hys, hcol, hb5⟩ := hrel
        have HTt := Lib.hid hT
        have HYs := Lib.hid hys
        have HCol := Lib.hid hcol
        have HB5 := Lib.hid hb5
        clear hys hcol hb5 hT
        by_cases hjl : j < xs.l.length
        · have j0' : (0 : Int) ≤ (j : Int) := by omega
          have j1 : (j : Int) < (xs.l.length : Int) := by omega
          obtain ⟨b, o, hAA, hb, hc⟩ := HXs.out.rd.at exC_len (by omega) hjl
          have HAA := Lib.hid hAA
          have hrun : ∀ w', Sem.run Tryd.prog (Instr.indexAt 30 (.slice xs.a xs.l.length xs.c) (.int .i64 j)) w' = .ok (Value.pointer (some ⟨b, o + j * 2, none⟩)) w' := fun w' => by
            rw [HAA.out]; go_simp
          have hye := HXs.out.each _ (List.getElem_mem hjl)
          have HPr : Hid ((xs.l.take (j + 1)).map Ex.pr = (xs.l.take j).map Ex.pr ++ [(xs.l[j]).pr]) := Lib.hid (by rw [List.take_succ_eq_append_getElem hjl, List.map_append]; rfl)
          obtain ⟨y, hy⟩ : ∃ y, y = xs.l[j] := ⟨_, rfl⟩
          rw [← hy] at hc hye HPr
          have a0 : w5.cell? ⟨b, o + j * 2, none⟩ = some (.slice y.nodes.a y.nodes.l.length y.nodes.c) := by simpa using hc w5 HCol.out.low 0 _ rfl
          have a1 : w5.cell? ⟨b, o + j * 2 + 1, none⟩ = some (.int .i64 (y.root : Int)) := hc w5 HCol.out.low 1 _ rfl
          have hT12 : T ≤ 12 := by
            have h9 := tot_take (xs.l.map Ex.pr) j
            rw [← List.map_take] at h9
            have := HTot.out
            have := HTt.out
            omega
          have HYe := Lib.hid hye
          have HYx := Lib.hid hy
          clear hAA hc hye hy
          obtain ⟨qt, hqt⟩ : ∃ qt, qt = w5.heap.size := ⟨_, rfl⟩
          obtain ⟨wt, hwt⟩ : ∃ wt, wt = w5.alloc (.cells #[.slice y.nodes.a y.nodes.l.length y.nodes.c, .int .i64 (y.root : Int)] 25) := ⟨_, rfl⟩
          have HBt : Hid (Below w5.heap.size w5 wt) := Lib.hid (by rw [hwt]; exact below_new _ _)
          have HVt : Hid (Vr wt qt (exC y)) := Lib.hid (by rw [hwt, hqt]; exact Vr.new w5 _ _)
          have HQt := Lib.hid hqt
          have HWt := Lib.hid hwt
          have hzt : wt.heap.size = qt + 1 := by rw [hwt, hqt]; simp
          have HZt := Lib.hid hzt
          have t0 := HVt.out.cells 0 _ rfl
          have t1 := HVt.out.cells 1 _ rfl
          have ltt := HVt.out.lt
          have HKeep : Hid (∀ W, Below wt.heap.size wt W → W.cell? ⟨qt, 0, none⟩ = some (.slice y.nodes.a y.nodes.l.length y.nodes.c) ∧ W.cell? ⟨qt, 1, none⟩ = some (.int .i64 (y.root : Int))) := Lib.hid (fun W hW => ⟨(HVt.out.below hW).cells 0 _ rfl, (HVt.out.below hW).cells 1 _ rfl⟩)
          have HCl15 : Hid (∀ W, Below wt.heap.size wt W → Calls Tryd.prog 16 #[.slice y.nodes.a y.nodes.l.length y.nodes.c] W (fun e w' => ∃ A c, e = .returned (.slice A y.nodes.l.length c) ∧ (w'.ownsRow W.heap.size 41 5 (.slice A y.nodes.l.length c) y.nodes.l.length (y.nodes.l.flatMap ndC) ∧ Below W.heap.size W w') ∧ Below wt.heap.size wt w')) := Lib.hid (fun W hW =>
            (cloneN_any y.nodes.a y.nodes.c y.nodes.l W (Ex.below HYe.out.1 (bon HCol.out.low (bon HBt.out hW))).1 (by have := HYe.out.2.le; rw [Ex.lg_len] at this; omega)).mono fun _ _ ⟨A, c, he, ho, hb⟩ => ⟨A, c, he, ⟨ho, hb⟩, bon hW hb⟩)
          have hbt0 : Below wt.heap.size wt wt := Below.refl _ _
          have HClA := Lib.hid (HCl15.out wt.drew (Below.refl _ _).drew)
          have HClB := Lib.hid ((HCl15.out (wt.alloc (.cells #[.slice none 0 0, .int .i64 0] 25)).drew (below_new wt _).drew).mono (R' := fun e w' => ∃ A c, e = .returned (.slice A y.nodes.l.length c) ∧ (w'.ownsRow (wt.heap.size + 1) 41 5 (.slice A y.nodes.l.length c) y.nodes.l.length (y.nodes.l.flatMap ndC) ∧ Below (wt.heap.size + 1) (wt.alloc (.cells #[.slice none 0 0, .int .i64 0] 25)).drew w') ∧ Below wt.heap.size wt w' ∧
              w'.cell? ⟨wt.heap.size, 0, none⟩ = some (.slice none 0 0) ∧ w'.cell? ⟨wt.heap.size, 1, none⟩ = some (.int .i64 0) ∧ w'.frozen? ⟨wt.heap.size, 0, none⟩ = false ∧ w'.frozen? ⟨wt.heap.size, 1, none⟩ = false) (fun _ _ ⟨A, c, he, ⟨ho, hb⟩, hb2⟩ => by
            have hv := ((Vr.new wt [.slice none 0 0, .int .i64 0] 25).below ((Below.refl _ _).drew)).below hb
            have hz : (wt.alloc (.cells #[.slice none 0 0, .int .i64 0] 25)).drew.heap.size = wt.heap.size + 1 := by simp
            rw [hz] at ho hb
            exact ⟨A, c, he, ⟨ho, hb⟩, hb2, hv.cells 0 _ rfl, hv.cells 1 _ rfl, hv.free 0 (by simp), hv.free 1 (by simp)⟩))
          clear hqt hwt hzt
          go_upto_region 15 with fail
          rw [← HWt.out, ← HQt.out]
          clear a0 a1 hrun
          go_cut [13] from 44 to 49 (fun p wx => Cl15 y qt p wx ∧ Below wt.heap.size wt wx)
          case first =>
            go_region_held3 (fun W => W.cell? ⟨qt, 0, none⟩ = some (.slice y.nodes.a y.nodes.l.length y.nodes.c) ∧ W.cell? ⟨qt, 1, none⟩ = some (.int .i64 (y.root : Int)))
              (first | exact HKeep.out _ ‹Below wt.heap.size wt _› | exact HKeep.out _ (Below.drew ‹Below wt.heap.size wt _›) | exact HKeep.out _ (Below.alloc ‹Below wt.heap.size wt _› (Below.size ‹Below wt.heap.size wt _›) _) | exact HKeep.out _ (Below.drew (Below.alloc ‹Below wt.heap.size wt _› (Below.size ‹Below wt.heap.size wt _›) _)) | exact HKeep.out _ (Below.setCell (Below.setCell ‹Below wt.heap.size wt _› (Nat.le_refl _) _) (Nat.le_refl _) _))
              (first
                | (go_at_call 16; ((with_reducible refine HClA.out.mono ?_); rintro e w6 ⟨A6, c6, rfl, ⟨ho6, hb6⟩, hbt6⟩))
                | (go_at_call 16; ((with_reducible refine HClB.out.mono ?_); rintro e w6 ⟨A6, c6, rfl, ⟨ho6, hb6⟩, hbt6, m0, m1, m2, m3⟩)))
            · go_wp2_with fail
              go_meet
              case rel => exact ⟨cl15_a (by rw [← HZt.out]; exact ho6) (by rw [← HZt.out]; exact hbt6.size), bon hbt6 (below_new _ _)⟩
            · go_wp2_with fail
              go_meet
              case rel => exact ⟨cl15_b HZt.out (by rw [← HZt.out]; exact ho6) m0 m1 m2 m3, (hbt6.setCell (Nat.le_refl _) _).setCell (Nat.le_refl _) _⟩
          case rest =>
            obtain ⟨⟨g, Ac, cc, rfl, hqg, hvg, hog, hag⟩, hbx⟩ := hcut
            rename World => wx
            have HVg := Lib.hid hvg
            have HOg := Lib.hid hog
            have HAg := Lib.hid hag
            have HBx := Lib.hid (bon HBt.out hbx)
            clear hvg hog hag hbx t0 t1 ltt hbt0
            have g0 := HVg.out.cells 0 _ rfl
            have lg := HVg.out.lt
            have hyv := HYe.out.2
            have hnn : 0 < y.nodes.l.length := by have := hyv.pos; rwa [Ex.lg_len] at this
            have hn60 : y.nodes.l.length ≤ 60 := by have := hyv.le; rwa [Ex.lg_len] at this
            obtain ⟨gc, cap', hgc, _, _⟩ := World.ownsRow.form HOg.out hnn
            obtain ⟨hgc1, _, _⟩ : Ac = some ⟨gc, 0, none⟩ ∧ True ∧ True := by injection hgc with h1 h2 h3; exact ⟨h1, trivial, trivial⟩
            subst hgc1
            have hgg : gc ≠ g := HAg.out gc rfl
            have HYv := Lib.hid hyv
            clear hgc hyv
            go_wp2_with fail
            clear g0 lg
            have hqg0 := HQt.out
            go_loopw [14, 53] (fun cv i w7 => ∃ (k cn : Nat), i = .int .i64 k ∧ cv = .int .i64 (cn : Int) ∧ cn = (y.lg.take k).foldl cnt1 0 ∧ k ≤ y.nodes.l.length ∧ Vr w7 g [.slice (some ⟨gc, 0, none⟩) y.nodes.l.length cc, .int .i64 (y.root : Int)] ∧ w7.ownsRow (qt + 1) 41 5 (.slice (some ⟨gc, 0, none⟩) y.nodes.l.length cc) y.nodes.l.length ((mvTo T k y.nodes.l).flatMap ndC) ∧ Below w5.heap.size w5 w7) (fun _ i _ => y.nodes.l.length - (intOf i).toNat)
            case atStart => exact ⟨0, 0, rfl, rfl, rfl, Nat.zero_le _, HVg.out, HOg.out, HBx.out⟩
            case round =>
              rename World => w7
              obtain ⟨k, cn, rfl, rfl, hcn, hk3, hv7, ho7, hb7⟩ := hrel
              have HCn := Lib.hid hcn
              have HV7 := Lib.hid hv7
              have HO7 := Lib.hid ho7
              have HB7 := Lib.hid hb7
              clear hcn hv7 ho7 hb7
              by_cases hkl : k < y.nodes.l.length
              · have k0' : (0 : Int) ≤ (k : Int) := by omega
                have k1 : (k : Int) < (y.nodes.l.length : Int) := by omega
                have hkm : k < (mvTo T k y.nodes.l).length := by rw [mvTo_len]; exact hkl
                have hcell : ∀ i v, i < 5 → (ndC y.nodes.l[k])[i]? = some v → w7.cell? ⟨gc, k * 5 + i, none⟩ = some v := fun i v hi hv => by
                  rw [World.ownsRow.cellAt HO7.out (k * 5 + i) (by omega), flat_get ndC 5 ndC_len _ k hkm i hi, mvTo_get T k _ hkl]
                  exact hv
                have hfr : ∀ i, w7.frozen? ⟨gc, i, none⟩ = false := fun i => World.ownsRow.frozenAt HO7.out i
                have hrun : ∀ w', Sem.run Tryd.prog (Instr.indexAt 23 (.slice (some ⟨gc, 0, none⟩) y.nodes.l.length cc) (.int .i64 k)) w' = .ok (Value.pointer (some ⟨gc, k * 5, none⟩)) w' := fun w' => by
                  go_simp
                obtain ⟨n, hne⟩ : ∃ n, n = y.nodes.l[k] := ⟨_, rfl⟩
                rw [← hne] at hcell
                have a0 : w7.cell? ⟨gc, k * 5, none⟩ = some (.int .i64 (n.kind : Int)) := by simpa using hcell 0 _ (by decide) rfl
                have a1 := hcell 1 _ (by decide) rfl
                have a2 := hcell 2 _ (by decide) rfl
                have a3 := hcell 3 _ (by decide) rfl
                have a4 := hcell 4 _ (by decide) rfl
                have f1 := hfr (k * 5 + 1)
                have lgc : gc < w7.heap.size := (HO7.out.lt gc rfl).2
                have HNe := Lib.hid hne
                have g0 := HV7.out.cells 0 _ rfl
                have lg := HV7.out.lt
                clear hcell hfr hne
                have hs12 : n.server < 12 := by
                  have h9 := (HYv.out.each k (by rw [Ex.lg_len]; exact hkl)).srv
                  rw [Ex.lg_get y k hkl, ← HNe.out] at h9
                  exact h9
                have HC1 : Hid ((y.lg.take (k + 1)).foldl cnt1 0 = cnt1 cn n.lg) := Lib.hid (by rw [cnt_snoc y.lg k (by rw [Ex.lg_len]; exact hkl), ← HCn.out, Ex.lg_get y k hkl, ← HNe.out])
                by_cases hk1 : n.kind = 1
                · have e1 : ((n.kind : Int) == 1) = true := by rw [hk1]; rfl
                  have HMx : Hid ((if (cn : Int) < (n.server : Int) + 1 then (n.server : Int) + 1 else (cn : Int)) = ((max cn (n.server + 1) : Nat) : Int)) := Lib.hid (by split <;> omega)
                  have HC2 : Hid (max cn (n.server + 1) = (y.lg.take (k + 1)).foldl cnt1 0) := Lib.hid (by rw [HC1.out]; unfold cnt1; rw [if_pos (show n.lg.kind = 1 from hk1)]; rfl)
                  have HO8 : Hid ((w7.setCell ⟨gc, k * 5 + 1, none⟩ (.int .i64 ((n.server : Int) + (T : Int)))).ownsRow (qt + 1) 41 5 (.slice (some ⟨gc, 0, none⟩) y.nodes.l.length cc) y.nodes.l.length ((mvTo T (k + 1) y.nodes.l).flatMap ndC)) := Lib.hid (by
                    have h9 := (World.ownsRow.stored HO7.out (k * 5 + 1) (.int .i64 ((n.server : Int) + (T : Int)))).1
                    rw [flat_set ndC 5 ndC_len _ k hkm 1 (by decide) _ (ndMv T n) (by
                      rw [mvTo_get T k _ hkl, ← HNe.out]
                      unfold ndMv
                      rw [if_pos hk1]
                      simp [ndC]), HNe.out, mvTo_succ T k _ hkl] at h9
                    rw [HNe.out]
                    exact h9)
                  have HB8 : Hid (Below w5.heap.size w5 (w7.setCell ⟨gc, k * 5 + 1, none⟩ (.int .i64 ((n.server : Int) + (T : Int))))) := Lib.hid (HB7.out.setCell (by show w5.heap.size ≤ gc; have := (HO7.out.lt gc rfl).1; omega) _)
                  have HV8 : Hid (Vr (w7.setCell ⟨gc, k * 5 + 1, none⟩ (.int .i64 ((n.server : Int) + (T : Int)))) g [.slice (some ⟨gc, 0, none⟩) y.nodes.l.length cc, .int .i64 (y.root : Int)]) := Lib.hid (HV7.out.grown (grown_set _ _ _) (by simpa using hgg))
                  clear hk1
                  go_wp2_with fail
                  go_roundw
                  case rel => rw [HMx.out]; exact ⟨k + 1, _, by go_num, rfl, HC2.out, by omega, HV8.out.below (below_new _ _), ownsRow_below HO8.out (below_new _ _), bon HB8.out (below_new _ _)⟩
                  case measure => simp [intOf]; omega
                · have e1 : ((n.kind : Int) == 1) = false := by rw [beq_eq_false_iff_ne]; omega
                  have HC2 : Hid (cn = (y.lg.take (k + 1)).foldl cnt1 0) := Lib.hid (by rw [HC1.out]; unfold cnt1; rw [if_neg (show ¬ n.lg.kind = 1 from hk1)])
                  have HO8 : Hid (w7.ownsRow (qt + 1) 41 5 (.slice (some ⟨gc, 0, none⟩) y.nodes.l.length cc) y.nodes.l.length ((mvTo T (k + 1) y.nodes.l).flatMap ndC)) := Lib.hid (by
                    rw [← mvTo_skip T k _ hkl (by rw [← HNe.out]; exact hk1)]; exact HO7.out)
                  clear hk1
                  go_wp2_with fail
                  go_roundw
                  case rel => exact ⟨k + 1, cn, by go_num, rfl, HC2.out, by omega, HV7.out.below (below_new _ _), ownsRow_below HO8.out (below_new _ _), bon HB7.out (below_new _ _)⟩
                  case measure => simp [intOf]; omega
              · obtain rfl : k = y.nodes.l.length := by omega
                have hoA := HO7.out
                rw [mvTo_all] at hoA
                have HOA := Lib.hid hoA
                have hcn2 : cn = cnt y.lg := by have := HCn.out; rw [List.take_of_length_le (by rw [Ex.lg_len]; omega)] at this; exact this
                have HT2 : Hid (T + cn = tot ((xs.l.take (j + 1)).map Ex.pr)) := Lib.hid (by rw [HPr.out, tot_snoc, ← HTt.out, hcn2]; rfl)
                have hT12' : T + cn ≤ 12 := by
                  have h9 := HT2.out
                  have := tot_take (xs.l.map Ex.pr) (j + 1)
                  rw [← List.map_take] at this
                  have := HTot.out
                  omega
                have hyl : ys.length ≤ 100 := by
                  have h9 : (ys.map Ex.pr).length = j := by rw [HYs.out, mvs_len, List.length_map, List.length_take]; omega
                  rw [List.length_map] at h9
                  omega
                have HYs2 : Hid ((ys ++ [(⟨⟨some ⟨gc, 0, none⟩, cc, y.nodes.l.map (ndMv T)⟩, y.root⟩ : Ex)]).map Ex.pr = mvs 0 ((xs.l.take (j + 1)).map Ex.pr)) := Lib.hid (by
                  rw [HPr.out, mvs_snoc, List.map_append, HYs.out, ← HTt.out, Nat.zero_add]
                  congr 1
                  show [((y.nodes.l.map (ndMv T)).map Nd.lg, y.root)] = [(mv T y.lg, y.root)]
                  rw [mv_map, List.map_map]
                  unfold Ex.lg
                  rw [List.map_map]
                  congr 2
                  apply List.map_congr_left
                  intro n _
                  exact ndMv_lg T n)
                have HFx : Hid (∃ Fx, Foot Fx (Ex.ok ⟨⟨some ⟨gc, 0, none⟩, cc, y.nodes.l.map (ndMv T)⟩, y.root⟩) w7 ∧ ∀ i, Fx i → 0 ≤ i ∧ i < w7.heap.size ∧ qv.ownBlock ≠ some i) := Lib.hid ⟨_, mv_foot HYe.out.1 (bon HCol.out.low HB7.out) HOA.out, fun i hi => by
                  have hq1 : ∀ b, qv.ownBlock = some b → w.heap.size ≤ b ∧ b < w5.heap.size := fun b hb => by have := HCol.out.own.lt b hb; have := HB4.out.size; omega
                  have hg1 := HOA.out.lt gc rfl
                  have hz1 := HCol.out.low.size
                  have hz2 := HB7.out.size
                  refine ⟨Nat.zero_le _, ?_, fun e => ?_⟩
                  · rcases hi with rfl | hi
                    · exact hg1.2
                    · omega
                  · have h9 := hq1 i e
                    rcases hi with rfl | hi
                    · omega
                    · omega⟩
                have HOc := Lib.hid (HCol.out.below HB7.out).own
                have g0 := HV7.out.cells 0 _ rfl
                have g1 := HV7.out.cells 1 _ rfl
                have lg := HV7.out.lt
                have hbz := (HCol.out.below HB7.out).base.2
                clear hoA hcn2
                go_wp2_with (at_builtin; refine wpList_append_own_at _ rfl _ _ 30 rfl w4.heap.size 25 iX _ 2 32 Tryd.underlying30 HIX.out HZX0.out HZX1.out HZX2.out rfl (by decide) _ _ _ rfl (HOc.out.alloc _) ⟨w7.heap.size, 0, none⟩ 1 1 [.slice (some ⟨gc, 0, none⟩) y.nodes.l.length cc, .int .i64 (y.root : Int)] rfl rfl (cell_new _ _ _ _ rfl) (by simp [Value.oneCell']) (by simp [maxLen]; omega) (by omega) (by simp; omega) ?_)
                intro v' w8 hown' hgrow _ hat
                have HN : Hid (Col 25 2 exC Ex.ok 0 w4.heap.size w v' (ys ++ [⟨⟨some ⟨gc, 0, none⟩, cc, y.nodes.l.map (ndMv T)⟩, y.root⟩]) w8) := Lib.hid (HCol.out.step HB7.out HFx.out (below_new w7 (.cells #[.slice (some ⟨gc, 0, none⟩) y.nodes.l.length cc, .int .i64 (y.root : Int)] 25)) (by
                  have e : exC ⟨⟨some ⟨gc, 0, none⟩, cc, y.nodes.l.map (ndMv T)⟩, y.root⟩ = [.slice (some ⟨gc, 0, none⟩) y.nodes.l.length cc, .int .i64 (y.root : Int)] := by simp [exC]
                  rw [e]; exact hown') hgrow (by simpa using hat))
                have HB8 : Hid (Below w4.heap.size w4 w8) := Lib.hid (by
                  have h9 := bon HB5.out (bon HB7.out (below_new w7 (.cells #[.slice (some ⟨gc, 0, none⟩) y.nodes.l.length cc, .int .i64 (y.root : Int)] 25)))
                  exact below_grown h9 h9.size hgrow (fun i hi => (HOc.out.lt i hi).1))
                clear hown' hgrow hat g0 g1 lg
                go_wp2_with fail
                go_roundw
                case rel => exact ⟨j + 1, _, _, T + cn, by go_num, rfl, by go_num, HT2.out, by omega, HYs2.out, HN.out, HB8.out⟩
                case measure => simp [intOf]; omega
        · obtain rfl : j = xs.l.length := by omega
          have hz5 := HCol.out.base
          have hys2 : ys.map Ex.pr = mvs 0 (xs.l.map Ex.pr) := by have := HYs.out; rwa [List.take_length] at this
          have hT9 : T ≤ 12 := by have h9 := HTt.out; rw [List.take_length] at h9; have := HTot.out; omega
          have d12 : decide ((12 : Int) < (T : Int)) = false := by rw [decide_eq_false_iff_not]; omega
          have hyl : ys.length = xs.l.length := by
            have h9 := congrArg List.length hys2
            rw [List.length_map, mvs_len, List.length_map] at h9
            exact h9
          obtain ⟨Am, cm, hqv⟩ := ownsRow_form HCol.out.own
          subst hqv
          have hF := (HCol.out.done rfl (Nat.zero_le _)).out
          have HIns : Hid (Ins w5 ⟨Am, cm, ys⟩) := Lib.hid ⟨hF.1, fun y hy => ⟨hF.2 y hy, by
            have h9 : y.pr ∈ mvs 0 (xs.l.map Ex.pr) := by rw [← hys2]; exact List.mem_map.2 ⟨y, hy, rfl⟩
            exact mvs_vx 0 _ (fun p hp => by obtain ⟨z, hz, rfl⟩ := List.mem_map.1 hp; exact (HXs.out.each z hz).2) (by have := HTot.out; omega) _ h9⟩⟩
          have HSub := Lib.hid (sub_any f x ⟨Am, cm, ys⟩ w5 HX.out.1 (Ex.below HX.out.2 HCol.out.low) HIns.out (by show size2 (ys.map Ex.pr) x.pr < 61; rw [hys2]; exact HSz.out) (by show wok f x.lg x.root (ys.map Ex.pr); rw [hys2]; exact HWk.out) (by show (Go.Proofs.YtlklmpcfhnbhgaaDoor.wr f x.lg x.root (ys.map Ex.pr) []).length ≤ 1000; rw [hys2]; exact HLen.out) (by show ys.length ≤ 1000; omega))
          have HYs9 := Lib.hid hys2
          have HX5 := Lib.hid (HX4.out.below HB5.out)
          have HR5 := Lib.hid (HR4.out.below HB5.out)
          have HB59 := Lib.hid HCol.out.low
          have x0 := HX5.out.cells 0 _ rfl
          have x1 := HX5.out.cells 1 _ rfl
          have lx := HX5.out.lt
          clear hF hys2 hyl
          go_wp2_with fail
          refine HSub.out.mono ?_
          rintro e w6 ⟨r, rfl, hp, hnw, hb6⟩
          have hv6 := HR5.out.below hb6
          have r0 := hv6.cells 0 _ rfl
          have r1 := hv6.cells 1 _ rfl
          have rf0 := hv6.free 0 (by simp)
          have rf1 := hv6.free 1 (by simp)
          have lr := hv6.lt
          have HP := Lib.hid hp
          have HN6 := Lib.hid hnw
          have HB6 := Lib.hid (bon HB59.out hb6)
          have hz9 := HR5.out.lt
          clear hp hnw hb6 hv6 x0 x1 lx
          go_wp2_with fail
          refine bodyPost_ret (v := .tuple #[.agg #[.slice r.nodes.a r.nodes.l.length r.nodes.c, .int .i64 (r.root : Int)], .int .i64 0]) (by simp [results, Tryd.results6, go_sem, r0, r1]) rfl ⟨r, rfl, ?_, ?_, ?_⟩
          · rw [HP.out]
            show _ = (Go.Proofs.YtlklmpcfhnbhgaaDoor.wr f x.lg x.root (mvs 0 (xs.l.map Ex.pr)) [], _)
            rw [← HYs9.out]
          · exact ((HN6.out.set ⟨w.heap.size + 1 + 1, 0, none⟩ _ hz9).set ⟨w.heap.size + 1 + 1, 1, none⟩ _ hz9).low (by omega)
          · exact (HB6.out.setCell (by show w.heap.size ≤ w.heap.size + 1 + 1; omega) _).setCell (by show w.heap.size ≤ w.heap.size + 1 + 1; omega) _
end Go.Proofs.YtlklmpcfhnbhgaaDoor
