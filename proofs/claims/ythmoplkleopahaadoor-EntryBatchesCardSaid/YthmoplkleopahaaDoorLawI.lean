/- The law on Batches. -/
import Derived.Test.YthmoplkleopahaaDoorLawC
import Derived.Test.YthmoplkleopahaaDoorRefN
import Derived.Test.YthmoplkleopahaaDoorPartP
namespace Go.Proofs.YthmoplkleopahaaDoor
open Go.RowKit

theorem flat_few : ∀ ls : List (List Rq), (∀ x ∈ ls, x ≠ []) → ls.length ≤ ls.flatten.length
  | [], _ => by simp
  | x :: t, h => by
    have h1 := flat_few t (fun y hy => h y (by simp [hy]))
    have h2 : 0 < x.length := List.length_pos_iff.2 (h x (by simp))
    simp only [List.flatten_cons, List.length_append, List.length_cons]
    omega
theorem batL_few (l : List Rq) (k b : Int) : (batL l k b).length ≤ l.length := by
  by_cases hz : batE l k b = 0
  · obtain ⟨hp, _, _⟩ := batL_parts hz
    have := flat_few _ hp.ne
    rwa [hp.all] at this
  · rw [batL_bad hz]; simp
set_option maxRecDepth 100000 in
set_option maxHeartbeats 4000000 in
theorem lawBatches (A : Option Addr) (c : Nat) (l : List Rq) (k b : Int) (w : World) (he : Env w) (h : RqIn w A c l) :
    Calls Tryd.prog 8 #[.slice A l.length c, .int .i64 k, .int .i64 b] w (RetBool true w) := by
  have HA : Hid (∀ W, Below w.heap.size w W → Calls Tryd.prog 11 #[] W fun e w' => e = .returned (.bool true) ∧ Below w.heap.size w w') := Lib.hid (fun W hW => (awake_any W (he.below hW)).mono fun _ _ ⟨a, b⟩ => ⟨a, bon hW b⟩)
  have HB0 : Hid (Below w.heap.size w w) := Lib.hid (Below.refl _ _)
  have HF : Hid (∀ W, Below w.heap.size w W → Calls Tryd.prog 12 #[.slice A l.length c] W fun e w' => e = .returned (.bool (fewB l)) ∧ W = w') := Lib.hid (fun W hW => few_any A c l W (h.below hW))
  cases hfew : fewB l with
  | false =>
    rw [hfew] at HF
    clear h he hfew
    go_enter Tryd.func8, Tryd.ntmps8
    go_wp2_with fail
    refine (HA.out _ HB0.out).mono ?_
    rintro e w1 ⟨rfl, b1⟩
    have HB1 := Lib.hid b1
    clear b1
    go_wp2_with fail
    refine (HF.out _ HB1.out).mono ?_
    rintro e w2 ⟨rfl, rfl⟩
    go_wp2_with fail
    refine (HA.out _ HB1.out).mono ?_
    rintro e w3 ⟨rfl, b3⟩
    go_wp2_with fail
    go_ret
    exact ret_bl rfl b3
  | true =>
    rw [hfew] at HF
    obtain ⟨hn30, ho250⟩ := few_get hfew
    have HQ := Lib.hid h
    have HE := Lib.hid he
    have HOp : Hid (∀ r ∈ l, r.op.length ≤ 9223372036854775807) := Lib.hid h.op
    clear h he hfew ho250
    go_enter Tryd.func8, Tryd.ntmps8
    go_wp2_with fail
    refine (HA.out _ HB0.out).mono ?_
    rintro e w1 ⟨rfl, b1⟩
    have HB1 := Lib.hid b1
    clear b1
    go_wp2_with fail
    refine (HF.out _ HB1.out).mono ?_
    rintro e w2 ⟨rfl, rfl⟩
    go_wp2_with fail
    refine (cloneRq_any A c l w1 (HQ.out.below HB1.out) (by omega)).mono ?_
    rintro e w2 ⟨A2, c2, rfl, o2, b2⟩
    have HB2 := Lib.hid (bon HB1.out b2)
    have HQ2 := Lib.hid (own_in o2 (by omega) HOp.out)
    clear b2 o2
    go_wp2_with fail
    refine (batches_any A2 c2 l k b w2 (HE.out.below HB2.out) HQ2.out (by omega)).mono ?_
    rintro e w3 ⟨A3, c3, bs, rfl, hbs, r3, hx3, hc3, b3⟩
    have HB3 := Lib.hid (bon HB2.out b3)
    have HBs := Lib.hid hbs
    have HR3 := Lib.hid r3
    have HX3 := Lib.hid hx3
    clear b3 hbs r3 hx3 hc3
    go_wp2_with fail
    refine (refBatches_any A c l k b w3 (HQ.out.below HB3.out) (by omega)).mono ?_
    rintro e w4 ⟨A4, c4, cs, rfl, hcs, r4, hx4, hc4, b4⟩
    have HB4 := Lib.hid (bon HB3.out b4)
    have HR3' := Lib.hid (HR3.out.below b4)
    have HX3' : Hid (∀ x ∈ bs, RqIn w4 x.a x.c x.l) := Lib.hid (fun x hx => (HX3.out x hx).below b4)
    have HR4 := Lib.hid r4
    have HX4 := Lib.hid hx4
    have hmap : cs.map Bt.l = bs.map Bt.l := hcs.trans HBs.out.symm
    have hlen : cs.length = bs.length := by have := congrArg List.length hmap; simpa using this
    have HEq : Hid (∀ (j : Nat) (h1 : j < bs.length) (h2 : j < cs.length), cs[j].l = bs[j].l) := Lib.hid (fun j h1 h2 => by
      have h9 : (cs.map Bt.l)[j]'(by simpa using h2) = (bs.map Bt.l)[j]'(by simpa using h1) := by simp only [hmap]
      simpa using h9)
    have hl1 : ((bs.length : Int) == (cs.length : Int)) = true := by rw [beq_iff_eq, hlen]
    have hl2 : ((bs.length : Int) != (cs.length : Int)) = false := by simp [hlen]
    have HLen := Lib.hid hlen
    have hb30 : bs.length ≤ 30 := by
      have h9 := batL_few l k b
      rw [← HBs.out, List.length_map] at h9
      omega
    generalize batE l k b = v
    clear b4 hcs r4 hx4 hc4 hmap hlen
    go_wp2_with fail
    go_loopw [47] (fun i wr => ∃ (j : Nat), i = .int .i64 j ∧ j ≤ bs.length ∧ Below w4.heap.size w4 wr) (fun i _ => bs.length - (intOf i).toNat)
    case atStart => exact ⟨0, rfl, by omega, Below.refl _ _⟩
    case round =>
      obtain ⟨j, rfl, hj, hb⟩ := hrel
      have HB := Lib.hid hb
      clear hb
      by_cases hlt : j < bs.length
      · have hlt2 : j < cs.length := by rw [HLen.out]; exact hlt
        have i0' : (0 : Int) ≤ (j : Int) := by omega
        have i1 : (j : Int) < (bs.length : Int) := by omega
        have i2 : (j : Int) < (cs.length : Int) := by omega
        obtain ⟨g, o, rfl, hg, hcc⟩ := HR3'.out.at btC_len (by omega) hlt
        obtain ⟨g2, o2, rfl, hg2, hcc2⟩ := HR4.out.at btC_len (by omega) hlt2
        have hxi := HX3'.out bs[j] (List.getElem_mem hlt)
        have hyi := HX4.out cs[j] (List.getElem_mem hlt2)
        have hxy := HEq.out j hlt hlt2
        obtain ⟨x, hx⟩ : ∃ x, x = bs[j] := ⟨_, rfl⟩
        obtain ⟨y, hy⟩ : ∃ y, y = cs[j] := ⟨_, rfl⟩
        rw [← hx, ← hy] at hxy
        rw [← hx] at hxi
        rw [← hy] at hyi
        have HC : Hid (∀ W, Below wr.heap.size wr W → W.cell? ⟨g, o + j * 3, none⟩ = some (.int .i64 1) ∧ W.cell? ⟨g, o + j * 3 + 1, none⟩ = some (.int .i64 0) ∧ W.cell? ⟨g, o + j * 3 + 2, none⟩ = some (.slice x.a x.l.length x.c) ∧ W.cell? ⟨g2, o2 + j * 3, none⟩ = some (.int .i64 1) ∧ W.cell? ⟨g2, o2 + j * 3 + 1, none⟩ = some (.int .i64 0) ∧ W.cell? ⟨g2, o2 + j * 3 + 2, none⟩ = some (.slice y.a x.l.length y.c)) := Lib.hid (fun W hW => by
          have hW4 := bon HB.out hW
          refine ⟨?_, hcc W hW4 1 _ rfl, ?_, ?_, hcc2 W hW4 1 _ rfl, ?_⟩
          · have := hcc W hW4 0 _ rfl; simpa using this
          · have := hcc W hW4 2 _ rfl; rw [← hx] at this; exact this
          · have := hcc2 W hW4 0 _ rfl; simpa using this
          · have := hcc2 W hW4 2 _ rfl; rw [← hy, hxy] at this; exact this)
        have HQe : Hid (∀ W, Below wr.heap.size wr W → Calls Tryd.prog 18 #[.agg #[.int .i64 1, .int .i64 0, .slice x.a x.l.length x.c], .agg #[.int .i64 1, .int .i64 0, .slice y.a x.l.length y.c]] W fun e w' => e = .returned (.bool true) ∧ Below wr.heap.size wr w') := Lib.hid (fun W hW => by
          have hyi2 := hyi.below (bon HB.out hW)
          rw [hxy] at hyi2
          exact (equal_any 1 0 1 0 x.a y.a x.c y.c x.l x.l W (hxi.below (bon HB.out hW)) hyi2).mono fun _ _ ⟨a, b⟩ => ⟨by rw [a, enEq_self], bon hW b⟩)
        have H0 : Below wr.heap.size wr wr := Below.refl _ _
        clear hcc hcc2 hxi hyi hxy hx hy
        go_wp2_with fail
        go_region_held3 (fun W => W.cell? ⟨g, o + j * 3, none⟩ = some (.int .i64 1) ∧ W.cell? ⟨g, o + j * 3 + 1, none⟩ = some (.int .i64 0) ∧ W.cell? ⟨g, o + j * 3 + 2, none⟩ = some (.slice x.a x.l.length x.c) ∧ W.cell? ⟨g2, o2 + j * 3, none⟩ = some (.int .i64 1) ∧ W.cell? ⟨g2, o2 + j * 3 + 1, none⟩ = some (.int .i64 0) ∧ W.cell? ⟨g2, o2 + j * 3 + 2, none⟩ = some (.slice y.a x.l.length y.c))
          (first | exact HC.out _ (Below.drew ‹Below wr.heap.size wr _›) | exact HC.out _ ‹Below wr.heap.size wr _›)
          (first | (go_at_call 18; refine (HQe.out _ (by first | assumption | exact Below.drew ‹Below wr.heap.size wr _›)).mono ?_; rintro e w5 ⟨rfl, b5⟩))
        all_goals
          have HB5 := Lib.hid (bon HB.out b5)
          clear b5
          go_wp2_with fail
          go_roundw
          case rel => exact ⟨j + 1, by go_num, by omega, HB5.out⟩
          case measure => simp [intOf]; omega
      · go_wp2_with fail
        go_ret
        exact ret_bl rfl (bon HB4.out HB.out)
end Go.Proofs.YthmoplkleopahaaDoor
