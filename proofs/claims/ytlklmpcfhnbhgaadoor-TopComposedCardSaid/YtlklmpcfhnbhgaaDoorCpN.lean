/- The contract of expr.Substitute. -/
import Derived.Test.YtlklmpcfhnbhgaaDoorCpI
import Derived.Test.YtlklmpcfhnbhgaaDoorCpF
import Derived.Laws.EntriesVeiled
namespace Go.Proofs.YtlklmpcfhnbhgaaDoor
open Go.RowKit

theorem Ins.below {w w' : World} {xs : Sl Ex} (h : Ins w xs) (hb : Below w.heap.size w w') : Ins w' xs := ⟨Rd.below h.rd hb, fun y hy => ⟨Ex.below (h.each y hy).1 hb, (h.each y hy).2⟩⟩
theorem Ot.start {w wr : World} {g : Nat} (hv : Vr wr g [.slice none 0 0, .int .i64 0]) (hl : Below w.heap.size w wr) (hg : w.heap.size ≤ g) : Ot (fun _ => False) w g [] none 0 [] 0 wr :=
  ⟨rfl, hv, World.ownsRow_nil _ _ _ _, hl, hg, ⟨fun _ => False, fun _ _ _ => by simp, fun _ h => h.elim⟩, fun _ h => h.elim⟩
theorem Ot.done {no : Nat → Prop} {w0 : World} {g : Nat} {acc : List Lg} {A : Option Addr} {c : Nat} {ys : List Nd} {r : Nat} {wr : World} (h : Ot no w0 g acc A c ys r wr) : New (g + 1) (Ex.ok ⟨⟨A, c, ys⟩, r⟩) wr := by
  obtain ⟨F, hF, hi⟩ := h.foot
  have hc : ys.length ≤ c := by
    rcases h.own.2 with ⟨h1, h0⟩ | ⟨g', cap', cur, h1, _, _, h2, _⟩
    · omega
    · injection h1 with h3 h4 h5; omega
  exact Foot.imp2 (new_row h.own (Nat.le_refl _)) (hF.mono (fun i a => ⟨by have := (hi i a).1; omega, (hi i a).2.1⟩)) (fun W a b => ⟨a, hc, b⟩)
set_option maxRecDepth 100000 in
set_option maxHeartbeats 8000000 in
theorem sub_any (f : Nat) (x : Ex) (xs : Sl Ex) (w : World) (hvx : VX x.lg x.root) (hx : x.ok w) (hxs : Ins w xs) (hsz : size2 (xs.l.map Ex.pr) x.pr < 61) (hwk : wok f x.lg x.root (xs.l.map Ex.pr)) (hlen : (wr f x.lg x.root (xs.l.map Ex.pr) []).length ≤ 1000) (hn : xs.l.length ≤ 1000) :
    Calls Tryd.prog 17 #[.agg #[.slice x.nodes.a x.nodes.l.length x.nodes.c, .int .i64 (x.root : Int)], .slice xs.a xs.l.length xs.c] w
      (RetExE (wr f x.lg x.root (xs.l.map Ex.pr) [], (wr f x.lg x.root (xs.l.map Ex.pr) []).length - 1) w) := by
  obtain ⟨wa, hwa⟩ : ∃ wa, wa = ((w.alloc (.cells #[.slice x.nodes.a x.nodes.l.length x.nodes.c, .int .i64 (x.root : Int)] 25)).alloc (.cells #[.slice xs.a xs.l.length xs.c] 30)).alloc (.cells #[.slice none 0 0, .int .i64 0] 25) := ⟨_, rfl⟩
  have hba : Below w.heap.size w wa := by rw [hwa]; exact bon (bon (below_new w _) (below_new _ _)) (below_new _ _)
  have hcx : Vr wa w.heap.size (exC x) := by rw [hwa]; exact ((Vr.new w _ _).below (below_new _ _)).below (below_new _ _)
  have hcl : Vr wa (w.heap.size + 1) [.slice xs.a xs.l.length xs.c] := by
    rw [hwa]
    have := (Vr.new (w.alloc (.cells #[.slice x.nodes.a x.nodes.l.length x.nodes.c, .int .i64 (x.root : Int)] 25)) [.slice xs.a xs.l.length xs.c] 30).below (below_new _ (.cells #[.slice none 0 0, .int .i64 0] 25))
    rwa [World.size_alloc] at this
  have hcr : Vr wa (w.heap.size + 1 + 1) [.slice none 0 0, .int .i64 0] := by
    rw [hwa]
    have := Vr.new ((w.alloc (.cells #[.slice x.nodes.a x.nodes.l.length x.nodes.c, .int .i64 (x.root : Int)] 25)).alloc (.cells #[.slice xs.a xs.l.length xs.c] 30)) [.slice none 0 0, .int .i64 0] 25
    rwa [World.size_alloc, World.size_alloc] at this
  have HWa := Lib.hid hwa
  have HBa := Lib.hid hba
  have HCx := Lib.hid hcx
  have HCl := Lib.hid hcl
  have HCr := Lib.hid hcr
  have HX : Hid (VX x.lg x.root ∧ x.ok w) := Lib.hid ⟨hvx, hx⟩
  have HXs := Lib.hid hxs
  have HSz := Lib.hid hsz
  have HWk := Lib.hid hwk
  have HLen := Lib.hid hlen
  have HV := Lib.hid (valid_any x wa hvx (Ex.below hx hba))
  clear hwa hba hcx hcl hcr hvx hx hxs hsz hwk hlen
  go_enter Tryd.func17, Tryd.ntmps17
  go_upto_region 1 with fail
  rw [← HWa.out]
  have x0 := HCx.out.cells 0 _ rfl
  have x1 := HCx.out.cells 1 _ rfl
  have lx := HCx.out.lt
  go_wp2_with fail
  refine HV.out.mono ?_
  rintro e wb ⟨rfl, bb⟩
  have HBb := Lib.hid bb
  have HLb := Lib.hid (HCl.out.below bb)
  clear x0 x1 lx bb
  have l0 := HLb.out.cells 0 _ rfl
  have ll := HLb.out.lt
  go_wp2_with fail
  clear l0 ll
  go_loopw [20] (fun i wr => ∃ k : Nat, i = .int .i64 k ∧ k ≤ xs.l.length ∧ Below wa.heap.size wa wr) (fun i _ => xs.l.length - (intOf i).toNat)
  case atStart => exact ⟨0, rfl, by omega, HBb.out⟩
  case round =>
    obtain ⟨k, rfl, hk, hbr⟩ := hrel
    have HBr := Lib.hid hbr
    have HBw := Lib.hid (bon HBa.out hbr)
    clear hbr
    by_cases hlt : k < xs.l.length
    · have i0' : (0 : Int) ≤ (k : Int) := by omega
      have i1 : (k : Int) < (xs.l.length : Int) := by omega
      obtain ⟨b, o, hA, hb, hc⟩ := HXs.out.rd.at exC_len (by omega) hlt
      have HA := Lib.hid hA
      have hrun : ∀ w', Sem.run Tryd.prog (Instr.indexAt 30 (.slice xs.a xs.l.length xs.c) (.int .i64 k)) w' = .ok (Value.pointer (some ⟨b, o + k * 2, none⟩)) w' := fun w' => by
        rw [HA.out]; go_simp
      have hye := HXs.out.each _ (List.getElem_mem hlt)
      obtain ⟨y, hy⟩ : ∃ y, y = xs.l[k] := ⟨_, rfl⟩
      rw [← hy] at hc hye
      have a0 : wr.cell? ⟨b, o + k * 2, none⟩ = some (.slice y.nodes.a y.nodes.l.length y.nodes.c) := by simpa using hc wr HBw.out 0 _ rfl
      have a1 : wr.cell? ⟨b, o + k * 2 + 1, none⟩ = some (.int .i64 (y.root : Int)) := hc wr HBw.out 1 _ rfl
      have HC := Lib.hid (valid_any y (wr.alloc (.cells #[.slice y.nodes.a y.nodes.l.length y.nodes.c, .int .i64 (y.root : Int)] 25)) hye.2 (Ex.below hye.1 (bon HBw.out (below_new _ _))))
      clear hA hc hye hy
      go_wp2_with fail
      refine HC.out.mono ?_
      rintro e w3 ⟨rfl, b3⟩
      have HB3 := Lib.hid (bon (bon HBr.out (below_new _ _)) b3)
      clear b3
      go_wp2_with fail
      go_roundw
      case rel => exact ⟨k + 1, by go_num, by omega, HB3.out⟩
      case measure => simp [intOf]; omega
    · obtain rfl : k = xs.l.length := by omega
      have HXr := Lib.hid (HCx.out.below HBr.out)
      have HLr := Lib.hid (HCl.out.below HBr.out)
      have HRr := Lib.hid (HCr.out.below HBr.out)
      have x0 := HXr.out.cells 0 _ rfl
      have x1 := HXr.out.cells 1 _ rfl
      have lx := HXr.out.lt
      have l0 := HLr.out.cells 0 _ rfl
      have ll := HLr.out.lt
      obtain ⟨wo, hwo⟩ : ∃ wo, wo = wr.alloc (.cells #[.func (.func 27) #[] #[]] 60) := ⟨_, rfl⟩
      have hbo : Below wr.heap.size wr wo := by rw [hwo]; exact below_new _ _
      have hqo : Vr wo wr.heap.size [.func (.func 27) #[] #[]] := by rw [hwo]; exact Vr.new wr _ _
      have HSize : Hid (Calls Tryd.prog 28 #[.agg #[.slice x.nodes.a x.nodes.l.length x.nodes.c, .int .i64 (x.root : Int)], .func (.func 29) #[] #[.pointer (some ⟨w.heap.size + 1, 0, none⟩), .pointer (some ⟨wr.heap.size, 0, none⟩)]] wo (RetNat (size2 (xs.l.map Ex.pr) x.pr) wo)) := Lib.hid
        (sizeTwo_any (xs.l.map Ex.pr) (w.heap.size + 1) wr.heap.size x wo HX.out.1 (Ex.below HX.out.2 (bon HBw.out hbo)) (sv2_le _) (fun i W hW => by
          have hL := (HLr.out.below hbo).below hW
          have hQ := hqo.below hW
          have hI := HXs.out.below (bon (bon HBw.out hbo) hW)
          exact sub2_any xs (w.heap.size + 1) wr.heap.size i W (hL.cells 0 _ rfl) (hQ.cells 0 _ rfl) hL.lt hQ.lt hI.rd (fun y hy => (hI.each y hy).1) (fun y hy => (hI.each y hy).2)))
      have HWo := Lib.hid hwo
      have HBo := Lib.hid hbo
      clear hwo hbo hqo
      go_wp2_with fail
      rw [← HWo.out]
      refine HSize.out.mono ?_
      rintro e w4 ⟨rfl, b4⟩
      have d1 : decide (61 ≤ size2 (xs.l.map Ex.pr) x.pr) = false := by have := HSz.out; rw [decide_eq_false_iff_not]; omega
      have d2 : decide ((61 : Int) ≤ (size2 (xs.l.map Ex.pr) x.pr : Int)) = false := by have := HSz.out; rw [decide_eq_false_iff_not]; omega
      have HB4 := Lib.hid (bon HBo.out b4)
      have HX4 := Lib.hid (HXr.out.below HB4.out)
      have HL4 := Lib.hid (HLr.out.below HB4.out)
      have HR4 := Lib.hid (HRr.out.below HB4.out)
      have hz4 := HR4.out.lt
      obtain ⟨g, hg⟩ : ∃ g, g = w4.heap.size := ⟨_, rfl⟩
      obtain ⟨w5, hw5⟩ : ∃ w5, w5 = w4.alloc (.cells #[.slice none 0 0, .int .i64 0] 25) := ⟨_, rfl⟩
      have hb5 : Below w4.heap.size w4 w5 := by rw [hw5]; exact below_new _ _
      have hO5 : Ot (fun _ => False) w g [] none 0 [] 0 w5 := Ot.start (by rw [hg, hw5]; exact Vr.new w4 _ _) (bon (bon HBw.out HB4.out) hb5) (by rw [hg]; omega)
      have hX5 := HX4.out.below hb5
      have hL5 := HL4.out.below hb5
      have HR5 := Lib.hid (HR4.out.below hb5)
      have hgw : w.heap.size + 1 + 1 < g := by omega
      have HWri := Lib.hid (write_any w g f (fun _ => False) x x.root xs [] none 0 [] 0 w5 HX.out.2 HX.out.1 HXs.out HWk.out hO5 (fun _ h => h.elim) HLen.out)
      have e0 := hX5.cells 0 _ rfl
      have e1 := hX5.cells 1 _ rfl
      have le := hX5.lt
      have m0 := hL5.cells 0 _ rfl
      have lm := hL5.lt
      have HW5 := Lib.hid hw5
      have HG := Lib.hid hg
      clear b4 hg hw5 hb5 hO5 hX5 hL5 x0 x1 lx l0 ll
      go_upto_region 15 with fail
      rw [← HW5.out, ← HG.out]
      go_wp2_with fail
      refine HWri.out.mono ?_
      rintro e w6 ⟨⟨v6, rfl⟩, A6, c6, ys6, hot, hft⟩
      have hR6 := HR5.out.same hft.size (hft.keep _ HR5.out.lt (by omega) (by simp [blk]))
      have g0 := hot.v.cells 0 _ rfl
      have g1 := hot.v.cells 1 _ rfl
      have lg := hot.v.lt
      have r0 := hR6.cells 0 _ rfl
      have r1 := hR6.cells 1 _ rfl
      have rf0 := hR6.free 0 (by simp)
      have rf1 := hR6.free 1 (by simp)
      have lr := hR6.lt
      have HLg : Hid (ys6.map Nd.lg = _) := Lib.hid hot.lg
      have HN6 := Lib.hid (hot.done)
      have HB6 := Lib.hid hot.low
      clear hot hft hR6
      obtain ⟨r, hr⟩ : ∃ r, r = (Go.Proofs.YtlklmpcfhnbhgaaDoor.wr f x.lg x.root (xs.l.map Ex.pr) []).length - 1 := ⟨_, rfl⟩
      rw [← hr] at HN6 g1
      have HRr2 := Lib.hid hr
      clear hr
      go_wp2_with fail
      refine bodyPost_ret (v := .tuple #[.agg #[.slice A6 ys6.length c6, .int .i64 (r : Int)], .int .i64 0]) (by simp [results, Tryd.results17, go_sem, r0, r1]) rfl ⟨⟨⟨A6, c6, ys6⟩, r⟩, rfl, ?_, ?_, ?_⟩
      · show (ys6.map Nd.lg, r) = _
        rw [HLg.out, HRr2.out]
      · exact ((HN6.out.set ⟨w.heap.size + 1 + 1, 0, none⟩ _ (by show w.heap.size + 1 + 1 < g + 1; omega)).set ⟨w.heap.size + 1 + 1, 1, none⟩ _ (by show w.heap.size + 1 + 1 < g + 1; omega)).low (by omega)
      · exact (HB6.out.setCell (by show w.heap.size ≤ w.heap.size + 1 + 1; omega) _).setCell (by show w.heap.size ≤ w.heap.size + 1 + 1; omega) _
end Go.Proofs.YtlklmpcfhnbhgaaDoor
