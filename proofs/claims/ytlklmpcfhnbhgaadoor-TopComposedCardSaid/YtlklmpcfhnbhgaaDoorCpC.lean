/- The contracts of expr.weight, expr.valid, expr.Valid. -/
import Derived.Test.YtlklmpcfhnbhgaaDoorCpB
namespace Go.Proofs.YtlklmpcfhnbhgaaDoor
open Go.RowKit

set_option maxRecDepth 100000 in
set_option maxHeartbeats 1000000 in
theorem weight_any (n : Nd) (k : Nat) (w : World) : Calls Tryd.prog 13 #[.agg #[.int .i64 (n.kind : Int), .int .i64 (n.server : Int), .int .i64 (n.need : Int), .slice none 0 0, .slice n.kids.a n.kids.l.length n.kids.c], .int .i64 (k : Int)] w (RetErr 1 w) := by
  have HB := Lib.hid (below_new w (.cells #[.int .i64 (n.kind : Int), .int .i64 (n.server : Int), .int .i64 (n.need : Int), .slice none 0 0, .slice n.kids.a n.kids.l.length n.kids.c] 41))
  go_enter Tryd.func13, Tryd.ntmps13
  go_wp2_with fail
  go_ret
  exact ⟨rfl, HB.out⟩
set_option maxRecDepth 100000 in
set_option maxHeartbeats 2000000 in
theorem vld_any (n : Nd) (i : Nat) (w : World) (hv : n.lg.vl i) (hok : n.ok w) (_hi : i ≤ 1000) : Calls Tryd.prog 25 #[.agg #[.int .i64 (n.kind : Int), .int .i64 (n.server : Int), .int .i64 (n.need : Int), .slice none 0 0, .slice n.kids.a n.kids.l.length n.kids.c], .int .i64 (i : Int)] w (RetErr 0 w) := by
  obtain ⟨wb, hwb⟩ : ∃ wb, wb = (w.alloc (.cells #[.int .i64 (n.kind : Int), .int .i64 (n.server : Int), .int .i64 (n.need : Int), .slice none 0 0, .slice n.kids.a n.kids.l.length n.kids.c] 41)).alloc (.cells #[.int .i64 (i : Int)] 3) := ⟨_, rfl⟩
  have hb : Below w.heap.size w wb := by rw [hwb]; exact (below_new w _).alloc (by simp) _
  have hc : wb.cell? ⟨w.heap.size + 1, 0, none⟩ = some (.int .i64 (i : Int)) := by rw [hwb]; simp
  have HU := Lib.hid (contUnk_any n.kids.a n.kids.c n.kids.l (w.heap.size + 1) i wb (Rd.below hok hb) (by have := hv.kid.1; unfold Nd.lg at this; simp only at this; omega) hc (fun x hx => hv.kid.2 x hx))
  have HN := Lib.hid (contNil_any (.func (.func 36) #[] #[]) wb)
  have HW := Lib.hid hwb
  have HB := Lib.hid hb
  clear hwb hb hc hok
  rcases hv with ⟨v1, v2, v3, v4⟩ | ⟨v1, v2, v3, v4, v5⟩
  · unfold Nd.lg at v1 v2 v3 v4
    simp only at v1 v2 v3 v4
    have e1 : ((n.kind : Int) == 1) = true := by rw [v1]; rfl
    have e2 : ((n.need : Int) != 0) = false := by rw [v2]; rfl
    have e3 : decide ((0 : Int) < (n.kids.l.length : Int)) = false := by rw [v3]; rfl
    have e3' : decide (0 < n.kids.l.length) = false := by rw [v3]; rfl
    have e4 : decide ((n.server : Int) < 0) = false := by rw [decide_eq_false_iff_not]; omega
    have e5 : decide ((12 : Int) ≤ (n.server : Int)) = false := by rw [decide_eq_false_iff_not]; omega
    have e6 : decide ((n.need : Int) < 0) = false := by rw [decide_eq_false_iff_not]; omega
    have e7 : decide ((100000 : Int) < (n.need : Int)) = false := by rw [decide_eq_false_iff_not]; omega
    clear v1 v2 v3 v4
    go_enter Tryd.func25, Tryd.ntmps25
    go_upto_region 1 with fail
    rw [← HW.out]
    have c0 : wb.cell? ⟨w.heap.size, 0, none⟩ = some (.int .i64 (n.kind : Int)) := by rw [HW.out]; simp
    have c1 : wb.cell? ⟨w.heap.size, 1, none⟩ = some (.int .i64 (n.server : Int)) := by rw [HW.out]; simp
    have c2 : wb.cell? ⟨w.heap.size, 2, none⟩ = some (.int .i64 (n.need : Int)) := by rw [HW.out]; simp
    have c3 : wb.cell? ⟨w.heap.size, 3, none⟩ = some (.slice none 0 0) := by rw [HW.out]; simp
    have c4 : wb.cell? ⟨w.heap.size, 4, none⟩ = some (.slice n.kids.a n.kids.l.length n.kids.c) := by rw [HW.out]; simp
    go_wp2_with fail
    refine HN.out.mono ?_
    rintro e w2 ⟨rfl, rfl⟩
    go_wp2_with fail
    refine HU.out.mono ?_
    rintro e w2 ⟨rfl, rfl⟩
    go_wp2_with fail
    go_ret
    exact ⟨rfl, HB.out⟩
  · unfold Nd.lg at v1 v2 v3 v4
    simp only at v1 v2 v3 v4
    have e1 : ((n.kind : Int) == 1) = false := by rw [v1]; rfl
    have e1' : ((n.kind : Int) == 2) = true := by rw [v1]; rfl
    have e2 : ((n.server : Int) != 0) = false := by rw [v2]; rfl
    have e4 : decide ((n.server : Int) < 0) = false := by rw [decide_eq_false_iff_not]; omega
    have e5 : decide ((12 : Int) ≤ (n.server : Int)) = false := by rw [decide_eq_false_iff_not]; omega
    have e6 : decide ((n.need : Int) < 0) = false := by rw [decide_eq_false_iff_not]; omega
    have e7 : decide ((100000 : Int) < (n.need : Int)) = false := by rw [decide_eq_false_iff_not]; omega
    clear v1 v2 v3 v4 v5
    go_enter Tryd.func25, Tryd.ntmps25
    go_upto_region 1 with fail
    rw [← HW.out]
    have c0 : wb.cell? ⟨w.heap.size, 0, none⟩ = some (.int .i64 (n.kind : Int)) := by rw [HW.out]; simp
    have c1 : wb.cell? ⟨w.heap.size, 1, none⟩ = some (.int .i64 (n.server : Int)) := by rw [HW.out]; simp
    have c2 : wb.cell? ⟨w.heap.size, 2, none⟩ = some (.int .i64 (n.need : Int)) := by rw [HW.out]; simp
    have c3 : wb.cell? ⟨w.heap.size, 3, none⟩ = some (.slice none 0 0) := by rw [HW.out]; simp
    have c4 : wb.cell? ⟨w.heap.size, 4, none⟩ = some (.slice n.kids.a n.kids.l.length n.kids.c) := by rw [HW.out]; simp
    go_wp2_with fail
    refine HN.out.mono ?_
    rintro e w2 ⟨rfl, rfl⟩
    go_wp2_with fail
    refine HU.out.mono ?_
    rintro e w2 ⟨rfl, rfl⟩
    go_wp2_with fail
    go_ret
    exact ⟨rfl, HB.out⟩
set_option maxRecDepth 100000 in
set_option maxHeartbeats 2000000 in
theorem valid_any (x : Ex) (w : World) (hv : VX x.lg x.root) (hok : x.ok w) : Calls Tryd.prog 11 #[.agg #[.slice x.nodes.a x.nodes.l.length x.nodes.c, .int .i64 (x.root : Int)]] w (RetErr 0 w) := by
  have HR := Lib.hid hok.1
  have HK := Lib.hid hok.2.2
  have HE := Lib.hid hv.each
  have n0 := hv.pos
  have n1 := hv.le
  have n2 := hv.root
  rw [Ex.lg_len] at n0 n1 n2
  have HV0 := Lib.hid (Vr.new w [.slice x.nodes.a x.nodes.l.length x.nodes.c, .int .i64 (x.root : Int)] 25)
  have HB0 := Lib.hid (below_new w (.cells #[.slice x.nodes.a x.nodes.l.length x.nodes.c, .int .i64 (x.root : Int)] 25))
  have e1 : ((x.nodes.l.length : Int) == 0) = false := by rw [beq_eq_false_iff_ne]; omega
  have e1' : (x.nodes.l.length == 0) = false := by rw [beq_eq_false_iff_ne]; omega
  have e2 : decide ((60 : Int) < (x.nodes.l.length : Int)) = false := by rw [decide_eq_false_iff_not]; omega
  have e3 : decide ((x.root : Int) < 0) = false := by rw [decide_eq_false_iff_not]; omega
  have e4 : decide (x.nodes.l.length ≤ x.root) = false := by rw [decide_eq_false_iff_not]; omega
  clear hv hok
  go_enter Tryd.func11, Tryd.ntmps11
  go_wp2_with fail
  go_loopw [17] (fun i wr => ∃ k : Nat, i = .int .i64 k ∧ k ≤ x.nodes.l.length ∧ Vr wr w.heap.size [.slice x.nodes.a x.nodes.l.length x.nodes.c, .int .i64 (x.root : Int)] ∧ Below w.heap.size w wr) (fun i _ => x.nodes.l.length - (intOf i).toNat)
  case atStart => exact ⟨0, rfl, by omega, HV0.out, HB0.out⟩
  case round =>
    obtain ⟨k, rfl, hk, hvr, hbl⟩ := hrel
    have HV := Lib.hid hvr
    have HB := Lib.hid hbl
    clear hvr hbl
    by_cases hlt : k < x.nodes.l.length
    · have i0' : (0 : Int) ≤ (k : Int) := by omega
      have i1 : (k : Int) < (x.nodes.l.length : Int) := by omega
      obtain ⟨b, o, hA, hb, hc⟩ := HR.out.at ndC_len (by omega) hlt
      have HA := Lib.hid hA
      have hrun : ∀ w', Sem.run Tryd.prog (Instr.indexAt 23 (.slice x.nodes.a x.nodes.l.length x.nodes.c) (.int .i64 k)) w' = .ok (Value.pointer (some ⟨b, o + k * 5, none⟩)) w' := fun w' => by
        rw [HA.out]; go_simp
      obtain ⟨n, hn⟩ : ∃ n, n = x.nodes.l[k] := ⟨_, rfl⟩
      rw [← hn] at hc
      have hnk : n.ok w := by rw [hn]; exact HK.out _ (List.getElem_mem hlt)
      have hvl : n.lg.vl k := by rw [hn, ← Ex.lg_get x k hlt]; exact HE.out k (by rw [Ex.lg_len]; exact hlt)
      have a0 : wr.cell? ⟨b, o + k * 5, none⟩ = some (.int .i64 (n.kind : Int)) := by simpa using hc wr HB.out 0 _ rfl
      have a1 := hc wr HB.out 1 _ rfl
      have a2 := hc wr HB.out 2 _ rfl
      have a3 := hc wr HB.out 3 _ rfl
      have a4 := hc wr HB.out 4 _ rfl
      clear hc hA hn
      have HB1 := Lib.hid (bon HB.out (below_new wr (.cells #[.int .i64 (n.kind : Int), .int .i64 (n.server : Int), .int .i64 (n.need : Int), .slice none 0 0, .slice n.kids.a n.kids.l.length n.kids.c] 41)))
      have HV1 := Lib.hid (HV.out.below (below_new wr (.cells #[.int .i64 (n.kind : Int), .int .i64 (n.server : Int), .int .i64 (n.need : Int), .slice none 0 0, .slice n.kids.a n.kids.l.length n.kids.c] 41)))
      have HC := Lib.hid (vld_any n k _ hvl (Nd.below hnk HB1.out) (by omega))
      clear hnk hvl
      go_wp2_with fail
      refine HC.out.mono ?_
      rintro e w2 ⟨rfl, b2⟩
      have HB2 := Lib.hid (bon HB1.out b2)
      have HV2 := Lib.hid (HV1.out.below b2)
      clear b2
      go_wp2_with fail
      go_roundw
      case rel => exact ⟨k + 1, by go_num, by omega, HV2.out, HB2.out⟩
      case measure => simp [intOf]; omega
    · obtain rfl : k = x.nodes.l.length := by omega
      have c0 := HV.out.cells 0 _ rfl
      have c1 := HV.out.cells 1 _ rfl
      have lt := HV.out.lt
      go_wp2_with fail
      go_ret
      exact ⟨rfl, HB.out⟩
end Go.Proofs.YtlklmpcfhnbhgaaDoor
