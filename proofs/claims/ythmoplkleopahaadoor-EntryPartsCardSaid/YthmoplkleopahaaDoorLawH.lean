/- The law on the parts. -/
import Derived.Test.YthmoplkleopahaaDoorLawC
import Derived.Test.YthmoplkleopahaaDoorEntO
import Derived.Test.YthmoplkleopahaaDoorPartP
namespace Go.Proofs.YthmoplkleopahaaDoor
open Go.RowKit

theorem flat_part {ls : List (List Rq)} {l x : List Rq} (hf : ls.flatten = l) (hx : x ∈ ls) : ∀ r ∈ x, r ∈ l := fun r hr => by
  rw [← hf]; exact List.mem_flatten.2 ⟨x, hx, hr⟩
theorem flat_take_len {ls : List (List Rq)} {l : List Rq} (hf : ls.flatten = l) (j : Nat) : ((ls.take j).flatten).length ≤ l.length := by
  rw [← hf, ← List.take_append_drop j ls, List.flatten_append, List.length_append, List.take_append_drop]
  omega
/-- a copy of requests in the call's own memory, in a block that is new at W -/
def RetCp (l : List Rq) (w2 W : World) (e : Ending) (w' : World) : Prop := ∃ A c, e = .returned (.slice A l.length c) ∧ w'.ownsRow w2.heap.size 42 3 (.slice A l.length c) l.length (l.flatMap rqC) ∧ (∀ g, (Value.slice A l.length c).ownBlock = some g → W.heap.size ≤ g) ∧ Below W.heap.size W w'
theorem parts_few : ∀ ls : List (List Rq), (∀ x ∈ ls, x ≠ []) → ls.length ≤ ls.flatten.length
  | [], _ => by simp
  | x :: t, h => by
    have h1 := parts_few t (fun y hy => h y (by simp [hy]))
    have h2 : 0 < x.length := List.length_pos_iff.2 (h x (by simp))
    simp only [List.flatten_cons, List.length_append, List.length_cons]
    omega
set_option maxRecDepth 100000 in
set_option maxHeartbeats 8000000 in
theorem lawParts (A : Option Addr) (c : Nat) (l : List Rq) (k b : Int) (w : World) (he : Env w) (h : RqIn w A c l) (hr : ∀ r ∈ l, I64 r.client ∧ I64 r.number) :
    Calls Tryd.prog 9 #[.slice A l.length c, .int .i64 k, .int .i64 b] w (RetBool true w) := by
  have HA : Hid (∀ W, Below w.heap.size w W → Calls Tryd.prog 11 #[] W fun e w' => e = .returned (.bool true) ∧ Below w.heap.size w w') := Lib.hid (fun W hW => (awake_any W (he.below hW)).mono fun _ _ ⟨a, b⟩ => ⟨a, bon hW b⟩)
  have HB0 : Hid (Below w.heap.size w w) := Lib.hid (Below.refl _ _)
  have HF : Hid (∀ W, Below w.heap.size w W → Calls Tryd.prog 12 #[.slice A l.length c] W fun e w' => e = .returned (.bool (fewB l)) ∧ W = w') := Lib.hid (fun W hW => few_any A c l W (h.below hW))
  cases hfew : fewB l with
  | false =>
    rw [hfew] at HF
    clear h he hfew
    go_enter Tryd.func9, Tryd.ntmps9
    go_wp2_with fail
    refine (HA.out _ HB0.out).mono ?_
    rintro e w1 ⟨rfl, b1⟩
    have HB1 := Lib.hid b1
    clear b1
    go_wp2_with fail
    refine (HF.out _ HB1.out).mono ?_
    rintro e w2 ⟨rfl, rfl⟩
    go_wp2_with fail
    refine (HA.out _ HB1.out).mono ?_
    rintro e w3 ⟨rfl, b3⟩
    go_wp2_with fail
    go_ret
    exact ret_bl rfl b3
  | true =>
    rw [hfew] at HF
    obtain ⟨hn30, ho250⟩ := few_get hfew
    have HO2 : Hid (∀ r ∈ l, r.op.length ≤ 250) := Lib.hid ho250
    have HQ := Lib.hid h
    have HE := Lib.hid he
    have HOp : Hid (∀ r ∈ l, r.op.length ≤ 9223372036854775807) := Lib.hid h.op
    have HRr := Lib.hid hr
    clear h he hfew ho250 hr
    go_enter Tryd.func9, Tryd.ntmps9
    go_wp2_with fail
    refine (HA.out _ HB0.out).mono ?_
    rintro e w1 ⟨rfl, b1⟩
    have HB1 := Lib.hid b1
    clear b1
    go_wp2_with fail
    refine (HF.out _ HB1.out).mono ?_
    rintro e w2 ⟨rfl, rfl⟩
    go_wp2_with fail
    refine (cloneRq_any A c l w1 (HQ.out.below HB1.out) (by omega)).mono ?_
    rintro e w2 ⟨A2, c2, rfl, o2, b2⟩
    have HB2 := Lib.hid (bon HB1.out b2)
    have HQ2 := Lib.hid (own_in o2 (by omega) HOp.out)
    clear b2 o2
    go_wp2_with fail
    refine (batches_any A2 c2 l k b w2 (HE.out.below HB2.out) HQ2.out (by omega)).mono ?_
    rintro e w3 ⟨A3, c3, bs, rfl, hbs, r3, hx3, hc3, b3⟩
    have HB3 := Lib.hid (bon HB2.out b3)
    have HBs := Lib.hid hbs
    have HR3 := Lib.hid r3
    have HX3 := Lib.hid hx3
    clear b3 hbs r3 hx3 hc3
    by_cases hz : batE l k b = 0
    · obtain ⟨hp, hv0, hk8⟩ := batL_parts hz
      have HP := Lib.hid hp
      have HPart : Hid (∀ x ∈ bs, vEn ⟨1, 0, x.l⟩ = 0 ∧ x.l ≠ [] ∧ (x.l.length : Int) ≤ k ∧ ((valE ⟨1, 0, x.l⟩).length : Int) ≤ b) := Lib.hid (fun x hx => part_valid hz (by rw [← HBs.out]; exact List.mem_map_of_mem hx))
      have HIn : Hid (∀ x ∈ bs, ∀ r ∈ x.l, r ∈ l) := Lib.hid (fun x hx => flat_part hp.all (by rw [← HBs.out]; exact List.mem_map_of_mem hx))
      have HFl : Hid ((bs.map Bt.l).flatten = l) := Lib.hid (by rw [HBs.out]; exact hp.all)
      have HAp : Hid (∀ (m : Nat) (h1 : m < bs.length) (h2 : m + 1 < bs.length) (r : Rq) (t : List Rq), bs[m + 1].l = r :: t → fitsB k b (bs[m].l ++ [r]) = false) := Lib.hid (fun m h1 h2 r t ht => by
        have h9 : ∀ (i : Nat) (hi : i < (bs.map Bt.l).length), (bs.map Bt.l)[i] = (bs[i]'(by simpa using hi)).l := fun i hi => by simp
        have h8 := hp.apart
        rw [← HBs.out] at h8
        have h7 := h8 m (by simpa using h2) r t (by rw [h9]; exact ht)
        rw [h9] at h7
        exact h7)
      have hfew30 : bs.length ≤ 30 := by
        have h9 := parts_few (bs.map Bt.l) (fun x hx => by rw [HBs.out] at hx; exact (part_valid hz hx).2.1)
        rw [HFl.out, List.length_map] at h9
        omega
      obtain ⟨i0, hi, hz0, hz1, hz2⟩ := info_parts infoR
      have HI := Lib.hid hi
      have HZ0 := Lib.hid hz0
      have HZ1 := Lib.hid hz1
      have HZ2 := Lib.hid hz2
      rw [hz]
      clear hi hz0 hz1 hz2 hp hz
      go_wp2_with fail
      go_loopw [9, 37] (fun o i wr => ∃ (j : Nat) (all : List Rq) (A4 : Option Addr) (c4 : Nat), i = .int .i64 j ∧ j ≤ bs.length ∧ o = .slice A4 all.length c4 ∧ all = ((bs.take j).map Bt.l).flatten ∧ all.length ≤ 30 ∧ wr.ownsRow w3.heap.size 42 3 (.slice A4 all.length c4) all.length (all.flatMap rqC) ∧ Below w3.heap.size w3 wr ∧ w3.heap.size ≤ wr.heap.size) (fun _ i _ => bs.length - (intOf i).toNat)
      case atStart => exact ⟨0, [], none, 0, rfl, by omega, rfl, by simp, by simp, World.ownsRow_nil _ _ _ _, Below.refl _ _, Nat.le_refl _⟩
      case round =>
        obtain ⟨j, all, A4, c4, rfl, hj, rfl, hall, hal, hown, hb, hge⟩ := hrel
        have HAll := Lib.hid hall
        have HO := Lib.hid hown
        have HB := Lib.hid hb
        clear hall hown hb
        by_cases hlt : j < bs.length
        · have i0' : (0 : Int) ≤ (j : Int) := by omega
          have i1 : (j : Int) < (bs.length : Int) := by omega
          obtain ⟨g, o, rfl, hg, hcc⟩ := HR3.out.at btC_len (by omega) hlt
          have HCC := Lib.hid hcc
          have a0 := hcc wr HB.out 0 _ rfl
          have a1 := hcc wr HB.out 1 _ rfl
          have a2 := hcc wr HB.out 2 _ rfl
          simp only [Nat.add_zero] at a0
          obtain ⟨pv, pn, pk, pb⟩ := HPart.out bs[j] (List.getElem_mem hlt)
          have hin := HX3.out bs[j] (List.getElem_mem hlt)
          have hmem := HIn.out bs[j] (List.getElem_mem hlt)
          obtain ⟨y, hy⟩ : ∃ y, y = bs[j] := ⟨_, rfl⟩
          have HTk : Hid (((bs.take (j + 1)).map Bt.l).flatten = all ++ y.l) := Lib.hid (by rw [List.take_succ_eq_append_getElem hlt, List.map_append, List.flatten_append, HAll.out, hy]; simp)
          have HYj := Lib.hid hy
          have htl := flat_take_len HFl.out (j + 1)
          rw [← List.map_take, HTk.out, List.length_append] at htl
          rw [← hy] at a2 pv pn pk pb hin hmem
          have HIn2 := Lib.hid hin
          have HYmem := Lib.hid hmem
          have hyl : y.l.length ≤ 8 := by omega
          have HEn : Hid (∀ W, Below w3.heap.size w3 W → Calls Tryd.prog 13 #[.agg #[.int .i64 1, .int .i64 0, .slice y.a y.l.length y.c]] W fun e w' => e = .returned (.tuple #[.string ⟨(valE ⟨1, 0, y.l⟩).toArray⟩, .int .i64 0]) ∧ Below W.heap.size W w') := Lib.hid (fun W hW => by
            have h9 := enEncode_any 1 0 y.l y.a y.c W (HE.out.below (bon HB3.out hW)) (hin.below hW) (by omega) (fun r hr => ⟨(HRr.out r (hmem r hr)).1, (HRr.out r (hmem r hr)).2, by have := HO2.out r (hmem r hr); omega⟩) ⟨by decide, by decide⟩
            unfold encE at h9
            rw [pv, if_pos rfl] at h9
            exact h9)
          obtain ⟨y0, yt, hyy⟩ : ∃ y0 yt, y.l = y0 :: yt := by
            cases hq : y.l with
            | nil => exact absurd hq pn
            | cons p q => exact ⟨p, q, rfl⟩
          have HYY := Lib.hid hyy
          have hyp : (0 : Int) < (y.l.length : Int) := pos_of_ne pn
          have hypn : 0 < y.l.length := by omega
          have hy0 : ((y.l.length : Int) == 0) = false := by rw [beq_eq_false_iff_ne]; omega
          obtain ⟨ga, oa, hya, hga, hgc⟩ := hin.rd.cells (by rw [flat_len rqC 3 rqC_len]; omega)
          obtain ⟨ya, hyae⟩ : ∃ ya, ya = y.a := ⟨_, rfl⟩
          rw [← hyae] at hya a2 HEn HIn2
          subst hya
          have HYa := Lib.hid hyae
          clear hyae
          have HG0 : Hid (∀ W, Below w3.heap.size w3 W → W.cell? ⟨ga, oa, none⟩ = some (.int .i64 y0.client) ∧ W.cell? ⟨ga, oa + 1, none⟩ = some (.int .i64 y0.number) ∧ W.cell? ⟨ga, oa + 2, none⟩ = some (.string ⟨y0.op.toArray⟩)) := Lib.hid (fun W hW => by
            rw [HYY.out] at hgc
            exact ⟨(hW.cell (p := ⟨ga, oa, none⟩) hga).trans (hgc 0 _ rfl), (hW.cell (p := ⟨ga, oa + 1, none⟩) hga).trans (hgc 1 _ rfl), (hW.cell (p := ⟨ga, oa + 2, none⟩) hga).trans (hgc 2 _ rfl)⟩)
          have HBx0 := Lib.hid (bx_new wr [.int .i64 1, .int .i64 0, .slice (some ⟨ga, oa, none⟩) y.l.length y.c] 24)
          have HNews : Hid (∀ W, Below w3.heap.size w3 W → ∀ i u, (y.l.flatMap rqC)[i]? = some u → W.cell? ((⟨ga, oa, none⟩ : Addr).add i) = some u) := Lib.hid (fun W hW i u hu => by
            rw [add_plain']
            exact (hW.cell (p := ⟨ga, oa + i, none⟩) hga).trans (hgc i u hu))
          have HOne := Lib.hid (rqC_one y.l)
          have HYl := Lib.hid (flat_len rqC 3 rqC_len y.l)
          have hvb := pb
          generalize hval : valE ⟨1, 0, y.l⟩ = vv at HEn pb
          have pb2 : ¬ b < (vv.length : Int) := by omega
          have pk2 : ¬ k < (y.l.length : Int) := by omega
          clear hcc hgc hin hmem pv pn hvb hval hyy hy pk pb
          go_wp2_with fail
          refine (HEn.out _ (bon HB.out (bx_low HBx0.out))).mono ?_
          rintro e w4 ⟨rfl, b4⟩
          have HBx4 := Lib.hid (bx_on HBx0.out b4)
          have HO4 := Lib.hid (ownsRow_below HO.out (bx_low HBx4.out))
          have hz4 := bx_size HBx4.out
          clear b4 a0 a1 a2
          have e2 := bx_cell HBx4.out 2 _ rfl
          go_wp2_with (at_builtin; refine wpList_append_own _ rfl _ _ 22 rfl w3.heap.size 42 i0 _ 3 32 Tryd.underlying22 HI.out HZ0.out HZ1.out HZ2.out rfl (by decide) _ _ _ rfl HO4.out ⟨ga, oa, none⟩ y.l.length y.c (y.l.flatMap rqC) rfl HYl.out (HNews.out _ (bon HB.out (bx_low HBx4.out))) HOne.out (by simp [maxLen]; omega) (by omega) (by omega) ?_)
          intro v' w5 hown' hgrow _
          obtain ⟨A6, c6, hv6⟩ := ownsRow_form hown'
          subst hv6
          have HO5 := Lib.hid hown'
          have HB5 := Lib.hid (below_grown (bon HB.out (bx_low HBx4.out)) (by omega) hgrow (fun g hg => (HO4.out.lt g hg).1))
          have hz5 : w4.heap.size ≤ w5.heap.size := hgrow.size
          have hfar : some wr.heap.size ≠ (Value.slice A4 all.length c4).ownBlock := by
            intro h0
            have := (HO.out.lt wr.heap.size h0.symm).2
            omega
          have f2 : w5.cell? ⟨wr.heap.size, 2, none⟩ = some (.slice (some ⟨ga, oa, none⟩) y.l.length y.c) := by
            rw [hgrow.cell_far _ (by show wr.heap.size < w4.heap.size; omega) hfar]; exact e2
          have hlen : (all ++ y.l).length = all.length + y.l.length := by simp
          have HO5' : Hid (w5.ownsRow w3.heap.size 42 3 (.slice A6 (all ++ y.l).length c6) (all ++ y.l).length ((all ++ y.l).flatMap rqC)) := Lib.hid (by rw [hlen, List.flatMap_append]; exact HO5.out)
          clear hown' hgrow e2 hfar
          rcases Nat.eq_zero_or_pos j with hj0 | hjp
          · subst hj0
            go_wp2_with fail
            go_roundw
            case rel => exact ⟨0 + 1, all ++ y.l, A6, c6, by go_num, by omega, by rw [hlen], HTk.out.symm, by omega, HO5'.out, HB5.out, by omega⟩
            case measure => simp [intOf]; omega
          · obtain ⟨m, rfl⟩ : ∃ m, j = m + 1 := ⟨j - 1, by omega⟩
            have hm0 : (((m + 1 : Nat) : Int) == 0) = false := by rw [beq_eq_false_iff_ne]; omega
            have hmlt : m < bs.length := by omega
            obtain ⟨g', o', hA3, hg', hcc'⟩ := HR3.out.at btC_len (by omega) hmlt
            obtain ⟨rfl, rfl⟩ : g' = g ∧ o' = o := by
              simp only [Option.some.injEq, Addr.mk.injEq, and_true] at hA3
              exact ⟨hA3.1.symm, hA3.2.symm⟩
            have HCp := Lib.hid hcc'
            obtain ⟨p, hp⟩ : ∃ p, p = bs[m] := ⟨_, rfl⟩
            have hpin := HX3.out bs[m] (List.getElem_mem hmlt)
            have hpmem := HIn.out bs[m] (List.getElem_mem hmlt)
            obtain ⟨qv, qn, qk, qb⟩ := HPart.out bs[m] (List.getElem_mem hmlt)
            have hfit := HAp.out m hmlt hlt y0 yt (by rw [← HYj.out]; exact HYY.out)
            rw [← hp] at hpin hpmem qv qn qk hfit
            have HFit := Lib.hid hfit
            have HPin := Lib.hid hpin
            have HPmem := Lib.hid hpmem
            have hpl : p.l.length ≤ 8 := by omega
            have HS : Hid (∀ W, Below w5.heap.size w5 W → W.cell? ⟨g', o' + m * 3 + 2, none⟩ = some (.slice p.a p.l.length p.c) ∧ W.cell? ⟨wr.heap.size, 2, none⟩ = some (.slice (some ⟨ga, oa, none⟩) y.l.length y.c) ∧ W.cell? ⟨ga, oa, none⟩ = some (.int .i64 y0.client) ∧ W.cell? ⟨ga, oa + 1, none⟩ = some (.int .i64 y0.number) ∧ W.cell? ⟨ga, oa + 2, none⟩ = some (.string ⟨y0.op.toArray⟩)) := Lib.hid (fun W hW => by
              have hW3 := bon HB5.out hW
              refine ⟨?_, ?_, (HG0.out W hW3).1, (HG0.out W hW3).2.1, (HG0.out W hW3).2.2⟩
              · have := HCp.out W hW3 2 _ rfl; rw [← hp] at this; exact this
              · exact (hW.cell (p := ⟨wr.heap.size, 2, none⟩) (by show wr.heap.size < w5.heap.size; omega)).trans f2)
            have HCl : Hid (∀ W, Below w5.heap.size w5 W → Calls Tryd.prog 23 #[.slice p.a p.l.length p.c] W (RetCp p.l w5 W)) := Lib.hid (fun W hW => by
              refine (cloneRq_any p.a p.c p.l W (HPin.out.below (bon HB5.out hW)) (by omega)).mono ?_
              rintro e w' ⟨A, c, rfl, h1, h2⟩
              exact ⟨A, c, rfl, ownsRow_base h1 hW.size, fun g hg => (h1.lt g hg).1, h2⟩)
            have H0 : Below w5.heap.size w5 w5 := Below.refl _ _
            have hmx : p.l.length + 1 ≤ maxLen := by simp [maxLen]; omega
            have hby : (p.l.length + 1) * 32 ≤ 140737488355328 := by omega
            clear hpin hpmem hfit qv qn qk qb hcc' hp hA3
            have hlm : (p.l ++ [y0]).length = p.l.length + 1 := by simp
            have HLm := Lib.hid hlm
            clear hlm
            have im : (0 : Int) ≤ (m : Int) := by omega
            have im2 : (m : Int) < (bs.length : Int) := by omega
            go_wp2_with fail
            have hw1 : IntKind.i64.wrap (m : Int) = (m : Int) := IntWalk.i64_in _ (by omega)
            have hw2 : IntKind.i64.wrap ((m : Int) + 1 - 1) = (m : Int) := by rw [Int.add_sub_cancel]; exact hw1
            refine wp_region_noPanic ?_
            refine wp_region_held_drew (S := fun W => W.cell? ⟨g', o' + m * 3 + 2, none⟩ = some (.slice p.a p.l.length p.c) ∧ W.cell? ⟨wr.heap.size, 2, none⟩ = some (.slice (some ⟨ga, oa, none⟩) y.l.length y.c) ∧ W.cell? ⟨ga, oa, none⟩ = some (.int .i64 y0.client) ∧ W.cell? ⟨ga, oa + 1, none⟩ = some (.int .i64 y0.number) ∧ W.cell? ⟨ga, oa + 2, none⟩ = some (.string ⟨y0.op.toArray⟩)) (by kernel_rfl) ?_ (fun hHeld => ?_)
            · exact HS.out _ (Below.drew H0)
            have hb0 := Below.drew H0
            generalize w5.drew = v0 at hb0 hHeld ⊢
            refine wpAnyH_take (i := 0) (oi := _) (v := ?_) rfl (by kernel_rfl) (by kernel_rfl) (by kernel_rfl) (fun _ _ _ h => h) (Or.inl ⟨by rfl, ?_⟩) (by assumption) ?_
            rotate_left
            · intro w hSw; (try dsimp only at hSw); go_simp; try with_reducible rfl
            try simp only [Act.put, List.setIfInBounds_toArray]
            refine wpAnyH_take (i := 1) (oi := _) (v := ?_) rfl (by kernel_rfl) (by kernel_rfl) (by kernel_rfl) (fun _ _ _ h => h) (Or.inl ⟨by rfl, ?_⟩) (by assumption) ?_
            rotate_left
            · intro w hSw; (try dsimp only at hSw); go_simp; try with_reducible rfl
            try simp only [Act.put]
            refine wpAnyH_take (i := 2) (oi := _) (v := ?_) rfl (by kernel_rfl) (by kernel_rfl) (by kernel_rfl) (fun _ _ _ h => h) (Or.inl ⟨by rfl, ?_⟩) (by assumption) ?_
            rotate_left
            · intro w hSw; (try dsimp only at hSw); go_simp; try with_reducible rfl
            try simp only [Act.put]
            refine wpAnyH_take (i := 3) (oi := _) (v := ?_) rfl (by kernel_rfl) (by kernel_rfl) (by kernel_rfl) (fun _ _ _ h => h) (Or.inl ⟨by rfl, ?_⟩) (by assumption) ?_
            rotate_left
            · intro w hSw; (try dsimp only at hSw); go_simp; try with_reducible rfl
            try simp only [Act.put]
            refine wpAnyH_take (i := 4) (oi := _) (v := ?_) rfl (by kernel_rfl) (by kernel_rfl) (by kernel_rfl) (fun _ _ _ h => h) (Or.inl ⟨by rfl, ?_⟩) (by assumption) ?_
            rotate_left
            · intro w hSw; (try dsimp only at hSw); go_simp; try with_reducible rfl
            try simp only [Act.put]
            refine wpAnyH_take (i := 5) (oi := _) (v := ?_) rfl (by kernel_rfl) (by kernel_rfl) (by kernel_rfl) (fun _ _ _ h => h) (Or.inl ⟨by rfl, ?_⟩) (by assumption) ?_
            rotate_left
            · intro w hSw; (try dsimp only at hSw); go_simp; try with_reducible rfl
            try simp only [Act.put]
            refine wpAnyH_take (i := 7) (oi := _) (v := ?_) rfl (by kernel_rfl) (by kernel_rfl) (by kernel_rfl) (fun _ _ _ h => h) (Or.inl ⟨by rfl, ?_⟩) (by assumption) ?_
            rotate_left
            · intro w hSw; (try dsimp only at hSw); go_simp; try with_reducible rfl
            try simp only [Act.put]
            refine wpAnyH_take (i := 8) (oi := _) (v := ?_) rfl (by kernel_rfl) (by kernel_rfl) (by kernel_rfl) (fun _ _ _ h => h) (Or.inl ⟨by rfl, ?_⟩) (by assumption) ?_
            rotate_left
            · intro w hSw; (try dsimp only at hSw); go_simp; try with_reducible rfl
            try simp only [Act.put]
            refine wpAnyH_take (i := 9) (oi := _) (v := ?_) rfl (by kernel_rfl) (by kernel_rfl) (by kernel_rfl) (fun _ _ _ h => h) (Or.inl ⟨by rfl, ?_⟩) (by assumption) ?_
            rotate_left
            · intro w hSw; (try dsimp only at hSw); go_simp; try with_reducible rfl
            try simp only [Act.put]
            refine wpAnyH_take (i := 10) (oi := _) (v := ?_) rfl (by kernel_rfl) (by kernel_rfl) (by kernel_rfl) (fun _ _ _ h => h) (Or.inl ⟨by rfl, ?_⟩) (by assumption) ?_
            rotate_left
            · intro w hSw; (try dsimp only at hSw); go_simp; try with_reducible rfl
            try simp only [Act.put]
            refine wpAnyH_ready (rs := [6, 11, 14]) (by kernel_rfl) (by simp) ?_
            refine AllReadyH.cons (o := _) rfl (fun K hK => ?_) ?_
            · go_simp
              go_at_call 23
              refine (HCl.out _ hb0).mono ?_
              rintro e v1 ⟨A5, c5, rfl, occ, hsep, hs⟩
              go_wp2_with fail
              have hb1 := bon hb0 hs
              have oc1 := occ
              clear hs hsep occ
              refine hK.out _ _ ?_ (fun hHeld => ?_)
              · exact HS.out _ hb1
              clear hK K
              try simp only [Act.put, List.setIfInBounds_toArray, List.set_cons_zero, List.set_cons_succ]
              refine wpAnyH_ready (rs := [11, 14]) (by kernel_rfl) (by simp) ?_
              refine AllReadyH.cons (o := _) rfl (fun K hK => ?_) ?_
              · go_simp
                have hs := below_new v1 (.cells #[.int .i64 y0.client, .int .i64 y0.number, .string ⟨y0.op.toArray⟩] 42)
                have hnw := World.news_of_block (cs := #[.int .i64 y0.client, .int .i64 y0.number, .string ⟨y0.op.toArray⟩]) (t := 42) (fr := (0, 0)) (heap_alloc_new v1 (.cells #[.int .i64 y0.client, .int .i64 y0.number, .string ⟨y0.op.toArray⟩] 42))
                have hlw : v1.heap.size < (v1.alloc (.cells #[.int .i64 y0.client, .int .i64 y0.number, .string ⟨y0.op.toArray⟩] 42)).heap.size := by simp
                generalize v1.alloc (.cells #[.int .i64 y0.client, .int .i64 y0.number, .string ⟨y0.op.toArray⟩] 42) = v2 at hs hnw hlw ⊢
                have hb2 := bon hb1 hs
                have oc2 := ownsRow_below oc1 hs
                clear hs
                generalize v1.heap.size = gn at hnw hlw ⊢
                have hn2 := hnw
                have gn2 := hlw
                clear hnw hlw
                refine hK.out _ _ ?_ (fun hHeld => ?_)
                · exact HS.out _ hb2
                clear hK K
                try simp only [Act.put, List.setIfInBounds_toArray, List.set_cons_zero, List.set_cons_succ]
                refine wpAnyH_ready (rs := [12, 14]) (by kernel_rfl) (by simp) ?_
                refine AllReadyH.cons (o := _) rfl (fun K hK => ?_) ?_
                · refine step_append_lies _ (by rfl) _ _ _ (by rfl) w5.heap.size 42 i0 _ 3 32 Tryd.underlying22 HI.out HZ0.out HZ1.out HZ2.out rfl (by decide) _ _ _ (by rfl) oc2 _ 1 1 [.int .i64 y0.client, .int .i64 y0.number, .string ⟨y0.op.toArray⟩] (by rfl) (by rfl) hn2 (by simp [Value.oneCell']) Nat.one_pos hmx hby hb2.size _ rfl ?_
                  intro gg cap v3 hown hgrow hat hlt1
                  have hb3 := below_grown hb2 hb2.size hgrow (fun g hg => (oc2.lt g hg).1)
                  have own3 := hown
                  clear hown hgrow hat hlt1
                  refine hK.out _ _ ?_ (fun hHeld => ?_)
                  · exact HS.out _ hb3
                  clear hK K
                  try simp only [Act.put, List.setIfInBounds_toArray]
                  refine wpAnyH_take (i := 13) (oi := _) (v := ?_) rfl (by kernel_rfl) (by kernel_rfl) (by kernel_rfl) (fun _ _ _ h => h) (Or.inl ⟨by rfl, ?_⟩) (by assumption) ?_
                  rotate_left
                  · intro w hSw; (try dsimp only at hSw); go_simp; try with_reducible rfl
                  try simp only [Act.put]
                  refine wpAnyH_ready (rs := [14]) (by kernel_rfl) (by simp) ?_
                  refine AllReadyH.cons (o := _) rfl (fun K hK => ?_) ?_
                  · go_simp
                    have hgtl0 : w5.heap.size ≤ v3.heap.size := hb3.size
                    have hs := below_new v3 (.cells #[.int .i64 0, .int .i64 0, .slice none 0 0] 24)
                    have htw := O3.new v3 (.int .i64 0) (.int .i64 0) (.slice none 0 0) 24
                    have hgw : gg ≠ v3.heap.size := fun h0 => by have h8 := (own3.lt gg rfl).2; omega
                    generalize v3.alloc (.cells #[.int .i64 0, .int .i64 0, .slice none 0 0] 24) = v4 at hs htw ⊢
                    have hb4 := bon hb3 hs
                    have own4 := ownsRow_below own3 hs
                    clear hs
                    generalize v3.heap.size = gt at htw hgw hgtl0 ⊢
                    have hgtl := hgtl0
                    clear hgtl0
                    have hne := hgw
                    clear hgw
                    have ht4 := htw
                    clear htw
                    refine hK.out _ _ ?_ (fun hHeld => ?_)
                    · exact HS.out _ hb4
                    clear hK K
                    try simp only [Act.put, List.setIfInBounds_toArray, List.set_cons_zero, List.set_cons_succ]
                    refine wpAnyH_ready (rs := [15]) (by kernel_rfl) (by simp) ?_
                    refine AllReadyH.cons (o := _) rfl (fun K hK => ?_) ?_
                    · have htk := ht4
                      obtain ⟨tl, t0, t1, t2, t3, t4, t5⟩ := htk
                      go_simp
                      have hb5 := ((hb4.setCell (p := ⟨gt, 0, none⟩) (by show w5.heap.size ≤ gt; exact hgtl) (.int .i64 1)).setCell (p := ⟨gt, 1, none⟩) (by show w5.heap.size ≤ gt; exact hgtl) (.int .i64 0)).setCell (p := ⟨gt, 2, none⟩) (by show w5.heap.size ≤ gt; exact hgtl) (.slice (some ⟨gg, 0, none⟩) (p.l.length + 1) cap)
                      refine hK.out _ _ ?_ (fun hHeld => ?_)
                      · exact HS.out _ hb5
                      clear hK K
                      try simp only [Act.put, List.setIfInBounds_toArray, List.set_cons_zero, List.set_cons_succ]
                      refine wpAnyH_done (by kernel_rfl) ?_ _
                      refine NoPanic.normal ?_
                      have hq8 : Hid (RqIn _ (some ⟨gg, 0, none⟩) cap (p.l ++ [y0])) := Lib.hid (rqIn_sets (own_in (l := p.l ++ [y0]) (by rw [HLm.out, List.flatMap_append]; exact own4) (by rw [HLm.out]; omega) (fun r hr => by
                        rcases List.mem_append.1 hr with h9 | h9
                        · have := HO2.out r (HPmem.out r h9); omega
                        · simp only [List.mem_cons, List.not_mem_nil, or_false] at h9
                          subst h9
                          have := HO2.out r (HYmem.out r (by rw [HYY.out]; simp)); omega)) (b := gt) (fun a ha => by simp only [Option.some.injEq] at ha; subst ha; exact hne) (.int .i64 1) (.int .i64 0) (.slice (some ⟨gg, 0, none⟩) (p.l.length + 1) cap))
                      have ho8 : Hid (O3 _ gt (.int .i64 1) (.int .i64 0) (.slice (some ⟨gg, 0, none⟩) (p.l.length + 1) cap)) := Lib.hid (((ht4.set0 (.int .i64 1)).set1 (.int .i64 0)).set2 (.slice (some ⟨gg, 0, none⟩) (p.l.length + 1) cap))
                      generalize ((v4.setCell ⟨gt, 0, none⟩ (.int .i64 1)).setCell ⟨gt, 1, none⟩ (.int .i64 0)).setCell ⟨gt, 2, none⟩ (.slice (some ⟨gg, 0, none⟩) (p.l.length + 1) cap) = v9 at hq8 ho8 hb5 hHeld ⊢
                      have HB9 := Lib.hid hb5
                      have HEn9 : Hid (Calls Tryd.prog 14 #[.agg #[.int .i64 1, .int .i64 0, .slice (some ⟨gg, 0, none⟩) (p.l.length + 1) cap]] v9 (RetStrErr (encE ⟨1, 0, p.l ++ [y0]⟩) (vEn ⟨1, 0, p.l ++ [y0]⟩) v9)) := Lib.hid (by
                        have h9 := refEncode_any 1 0 (p.l ++ [y0]) (some ⟨gg, 0, none⟩) cap v9 hq8.out
                        rwa [HLm.out] at h9)
                      obtain ⟨u6, u0, u1, u2, u3, u4, u5⟩ := ho8.out
                      have HR9 : Hid (∀ W, Below v9.heap.size v9 W → W.cell? ⟨gt, 2, none⟩ = some (.slice (some ⟨gg, 0, none⟩) (p.l.length + 1) cap)) := Lib.hid (fun W hW => (ho8.out.below hW).c2)
                      clear hq8 ho8 hHeld hne t0 t1 t2 t3 t4 t5 tl hgtl
                      go_wp2_with fail
                      refine HEn9.out.mono ?_
                      rintro e va ⟨rfl, ba⟩
                      have HBa := Lib.hid (bon HB5.out (bon HB9.out ba))
                      have HOa := Lib.hid (ownsRow_below HO5'.out (bon HB9.out ba))
                      have hza : w3.heap.size ≤ va.heap.size := HBa.out.size
                      have x2 := HR9.out va ba
                      have HZs := Lib.hid (not_fits HFit.out)
                      have hfin : (p.l.length + 1 : Int) ≤ k → encE ⟨1, 0, p.l ++ [y0]⟩ = valE ⟨1, 0, p.l ++ [y0]⟩ → b < ((encE ⟨1, 0, p.l ++ [y0]⟩).length : Int) := fun h1 h2 => by
                        have h3 := HZs.out
                        rw [← h2, HLm.out] at h3
                        push_cast at h3
                        omega
                      clear ba u0 u1 u2 u3 u4 u5 u6
                      by_cases hv9 : vEn ⟨1, 0, p.l ++ [y0]⟩ = 0
                      · have hen : encE ⟨1, 0, p.l ++ [y0]⟩ = valE ⟨1, 0, p.l ++ [y0]⟩ := by unfold encE; rw [if_pos hv9]
                        rw [hv9]
                        have hfin2 := fun h1 => hfin h1 hen
                        clear hfin hv9 hen
                        generalize encE ⟨1, 0, p.l ++ [y0]⟩ = ev at hfin2 ⊢
                        by_cases hkk : (p.l.length + 1 : Int) ≤ k
                        · have hbb := hfin2 hkk
                          have hbb2 : ¬ (ev.length : Int) ≤ b := by omega
                          clear hfin2
                          go_wp2_with fail
                          go_roundw
                          case rel => exact ⟨m + 1 + 1, all ++ y.l, A6, c6, by go_num, by omega, by rw [hlen], HTk.out.symm, by omega, HOa.out, HBa.out, by omega⟩
                          case measure => simp [intOf]; omega
                        · by_cases hbb : (ev.length : Int) ≤ b
                          · clear hfin2
                            go_wp2_with fail
                            go_roundw
                            case rel => exact ⟨m + 1 + 1, all ++ y.l, A6, c6, by go_num, by omega, by rw [hlen], HTk.out.symm, by omega, HOa.out, HBa.out, by omega⟩
                            case measure => simp [intOf]; omega
                          · clear hfin2
                            go_wp2_with fail
                            go_roundw
                            case rel => exact ⟨m + 1 + 1, all ++ y.l, A6, c6, by go_num, by omega, by rw [hlen], HTk.out.symm, by omega, HOa.out, HBa.out, by omega⟩
                            case measure => simp [intOf]; omega
                      · generalize vEn ⟨1, 0, p.l ++ [y0]⟩ = v at hv9 ⊢
                        have hv1 : (v == 0) = false := by simpa using hv9
                        clear hfin hv9
                        generalize encE ⟨1, 0, p.l ++ [y0]⟩ = ev
                        go_wp2_with fail
                        go_roundw
                        case rel => exact ⟨m + 1 + 1, all ++ y.l, A6, c6, by go_num, by omega, by rw [hlen], HTk.out.symm, by omega, HOa.out, HBa.out, by omega⟩
                        case measure => simp [intOf]; omega
                    exact AllReadyH.nil
                  exact AllReadyH.nil
                refine AllReadyH.cons (o := _) rfl (fun K hK => ?_) ?_
                · go_simp
                  have hgtl0 : w5.heap.size ≤ v2.heap.size := hb2.size
                  have hs := below_new v2 (.cells #[.int .i64 0, .int .i64 0, .slice none 0 0] 24)
                  have htw := O3.new v2 (.int .i64 0) (.int .i64 0) (.slice none 0 0) 24
                  have hgw : some v2.heap.size ≠ (Value.slice A5 p.l.length c5).ownBlock := fun h0 => by have h8 := (oc2.lt _ h0.symm).2; omega
                  generalize v2.alloc (.cells #[.int .i64 0, .int .i64 0, .slice none 0 0] 24) = v3 at hs htw ⊢
                  have hb3 := bon hb2 hs
                  have oc3 := ownsRow_below oc2 hs
                  have gn3 := Nat.lt_of_lt_of_le gn2 (hs).size
                  have hn3 : ∀ i u, #[.int .i64 y0.client, .int .i64 y0.number, .string ⟨y0.op.toArray⟩].toList[i]? = some u → v3.cell? ((⟨gn, 0, none⟩ : Addr).add i) = some u := fun i u hu => by have h9 := hn2 i u hu; rw [add_off] at h9 ⊢; exact ((hs).cell (p := ⟨gn, 0 + i, none⟩) gn2).trans h9
                  clear hs
                  generalize v2.heap.size = gt at htw hgw hgtl0 ⊢
                  have hgtl := hgtl0
                  clear hgtl0
                  have hgt := hgw
                  clear hgw
                  have ht3 := htw
                  clear htw
                  refine hK.out _ _ ?_ (fun hHeld => ?_)
                  · exact HS.out _ hb3
                  clear hK K
                  try simp only [Act.put, List.setIfInBounds_toArray, List.set_cons_zero, List.set_cons_succ]
                  refine wpAnyH_ready (rs := [12]) (by kernel_rfl) (by simp) ?_
                  refine AllReadyH.cons (o := _) rfl (fun K hK => ?_) ?_
                  · refine step_append_lies _ (by rfl) _ _ _ (by rfl) w5.heap.size 42 i0 _ 3 32 Tryd.underlying22 HI.out HZ0.out HZ1.out HZ2.out rfl (by decide) _ _ _ (by rfl) oc3 _ 1 1 [.int .i64 y0.client, .int .i64 y0.number, .string ⟨y0.op.toArray⟩] (by rfl) (by rfl) hn3 (by simp [Value.oneCell']) Nat.one_pos hmx hby hb3.size _ rfl ?_
                    intro gg cap v4 hown hgrow hat hlt1
                    have hb4 := below_grown hb3 hb3.size hgrow (fun g hg => (oc3.lt g hg).1)
                    have own4 := hown
                    have ht4 := O3.grown ht3 hgrow hgt
                    have hne : gg ≠ gt := fun h0 => by
                      rcases hat with h9 | h9
                      · exact hgt (by rw [h9, h0])
                      · have h8 := ht3.lt; omega
                    clear hown hgrow hat hlt1
                    refine hK.out _ _ ?_ (fun hHeld => ?_)
                    · exact HS.out _ hb4
                    clear hK K
                    try simp only [Act.put, List.setIfInBounds_toArray]
                    refine wpAnyH_take (i := 13) (oi := _) (v := ?_) rfl (by kernel_rfl) (by kernel_rfl) (by kernel_rfl) (fun _ _ _ h => h) (Or.inl ⟨by rfl, ?_⟩) (by assumption) ?_
                    rotate_left
                    · intro w hSw; (try dsimp only at hSw); go_simp; try with_reducible rfl
                    try simp only [Act.put]
                    refine wpAnyH_ready (rs := [15]) (by kernel_rfl) (by simp) ?_
                    refine AllReadyH.cons (o := _) rfl (fun K hK => ?_) ?_
                    · have htk := ht4
                      obtain ⟨tl, t0, t1, t2, t3, t4, t5⟩ := htk
                      go_simp
                      have hb5 := ((hb4.setCell (p := ⟨gt, 0, none⟩) (by show w5.heap.size ≤ gt; exact hgtl) (.int .i64 1)).setCell (p := ⟨gt, 1, none⟩) (by show w5.heap.size ≤ gt; exact hgtl) (.int .i64 0)).setCell (p := ⟨gt, 2, none⟩) (by show w5.heap.size ≤ gt; exact hgtl) (.slice (some ⟨gg, 0, none⟩) (p.l.length + 1) cap)
                      refine hK.out _ _ ?_ (fun hHeld => ?_)
                      · exact HS.out _ hb5
                      clear hK K
                      try simp only [Act.put, List.setIfInBounds_toArray, List.set_cons_zero, List.set_cons_succ]
                      refine wpAnyH_done (by kernel_rfl) ?_ _
                      refine NoPanic.normal ?_
                      have hq8 : Hid (RqIn _ (some ⟨gg, 0, none⟩) cap (p.l ++ [y0])) := Lib.hid (rqIn_sets (own_in (l := p.l ++ [y0]) (by rw [HLm.out, List.flatMap_append]; exact own4) (by rw [HLm.out]; omega) (fun r hr => by
                        rcases List.mem_append.1 hr with h9 | h9
                        · have := HO2.out r (HPmem.out r h9); omega
                        · simp only [List.mem_cons, List.not_mem_nil, or_false] at h9
                          subst h9
                          have := HO2.out r (HYmem.out r (by rw [HYY.out]; simp)); omega)) (b := gt) (fun a ha => by simp only [Option.some.injEq] at ha; subst ha; exact hne) (.int .i64 1) (.int .i64 0) (.slice (some ⟨gg, 0, none⟩) (p.l.length + 1) cap))
                      have ho8 : Hid (O3 _ gt (.int .i64 1) (.int .i64 0) (.slice (some ⟨gg, 0, none⟩) (p.l.length + 1) cap)) := Lib.hid (((ht4.set0 (.int .i64 1)).set1 (.int .i64 0)).set2 (.slice (some ⟨gg, 0, none⟩) (p.l.length + 1) cap))
                      generalize ((v4.setCell ⟨gt, 0, none⟩ (.int .i64 1)).setCell ⟨gt, 1, none⟩ (.int .i64 0)).setCell ⟨gt, 2, none⟩ (.slice (some ⟨gg, 0, none⟩) (p.l.length + 1) cap) = v9 at hq8 ho8 hb5 hHeld ⊢
                      have HB9 := Lib.hid hb5
                      have HEn9 : Hid (Calls Tryd.prog 14 #[.agg #[.int .i64 1, .int .i64 0, .slice (some ⟨gg, 0, none⟩) (p.l.length + 1) cap]] v9 (RetStrErr (encE ⟨1, 0, p.l ++ [y0]⟩) (vEn ⟨1, 0, p.l ++ [y0]⟩) v9)) := Lib.hid (by
                        have h9 := refEncode_any 1 0 (p.l ++ [y0]) (some ⟨gg, 0, none⟩) cap v9 hq8.out
                        rwa [HLm.out] at h9)
                      obtain ⟨u6, u0, u1, u2, u3, u4, u5⟩ := ho8.out
                      have HR9 : Hid (∀ W, Below v9.heap.size v9 W → W.cell? ⟨gt, 2, none⟩ = some (.slice (some ⟨gg, 0, none⟩) (p.l.length + 1) cap)) := Lib.hid (fun W hW => (ho8.out.below hW).c2)
                      clear hq8 ho8 hHeld hne t0 t1 t2 t3 t4 t5 tl hgtl
                      go_wp2_with fail
                      refine HEn9.out.mono ?_
                      rintro e va ⟨rfl, ba⟩
                      have HBa := Lib.hid (bon HB5.out (bon HB9.out ba))
                      have HOa := Lib.hid (ownsRow_below HO5'.out (bon HB9.out ba))
                      have hza : w3.heap.size ≤ va.heap.size := HBa.out.size
                      have x2 := HR9.out va ba
                      have HZs := Lib.hid (not_fits HFit.out)
                      have hfin : (p.l.length + 1 : Int) ≤ k → encE ⟨1, 0, p.l ++ [y0]⟩ = valE ⟨1, 0, p.l ++ [y0]⟩ → b < ((encE ⟨1, 0, p.l ++ [y0]⟩).length : Int) := fun h1 h2 => by
                        have h3 := HZs.out
                        rw [← h2, HLm.out] at h3
                        push_cast at h3
                        omega
                      clear ba u0 u1 u2 u3 u4 u5 u6
                      by_cases hv9 : vEn ⟨1, 0, p.l ++ [y0]⟩ = 0
                      · have hen : encE ⟨1, 0, p.l ++ [y0]⟩ = valE ⟨1, 0, p.l ++ [y0]⟩ := by unfold encE; rw [if_pos hv9]
                        rw [hv9]
                        have hfin2 := fun h1 => hfin h1 hen
                        clear hfin hv9 hen
                        generalize encE ⟨1, 0, p.l ++ [y0]⟩ = ev at hfin2 ⊢
                        by_cases hkk : (p.l.length + 1 : Int) ≤ k
                        · have hbb := hfin2 hkk
                          have hbb2 : ¬ (ev.length : Int) ≤ b := by omega
                          clear hfin2
                          go_wp2_with fail
                          go_roundw
                          case rel => exact ⟨m + 1 + 1, all ++ y.l, A6, c6, by go_num, by omega, by rw [hlen], HTk.out.symm, by omega, HOa.out, HBa.out, by omega⟩
                          case measure => simp [intOf]; omega
                        · by_cases hbb : (ev.length : Int) ≤ b
                          · clear hfin2
                            go_wp2_with fail
                            go_roundw
                            case rel => exact ⟨m + 1 + 1, all ++ y.l, A6, c6, by go_num, by omega, by rw [hlen], HTk.out.symm, by omega, HOa.out, HBa.out, by omega⟩
                            case measure => simp [intOf]; omega
                          · clear hfin2
                            go_wp2_with fail
                            go_roundw
                            case rel => exact ⟨m + 1 + 1, all ++ y.l, A6, c6, by go_num, by omega, by rw [hlen], HTk.out.symm, by omega, HOa.out, HBa.out, by omega⟩
                            case measure => simp [intOf]; omega
                      · generalize vEn ⟨1, 0, p.l ++ [y0]⟩ = v at hv9 ⊢
                        have hv1 : (v == 0) = false := by simpa using hv9
                        clear hfin hv9
                        generalize encE ⟨1, 0, p.l ++ [y0]⟩ = ev
                        go_wp2_with fail
                        go_roundw
                        case rel => exact ⟨m + 1 + 1, all ++ y.l, A6, c6, by go_num, by omega, by rw [hlen], HTk.out.symm, by omega, HOa.out, HBa.out, by omega⟩
                        case measure => simp [intOf]; omega
                    exact AllReadyH.nil
                  exact AllReadyH.nil
                exact AllReadyH.nil
              refine AllReadyH.cons (o := _) rfl (fun K hK => ?_) ?_
              · go_simp
                have hgtl0 : w5.heap.size ≤ v1.heap.size := hb1.size
                have hs := below_new v1 (.cells #[.int .i64 0, .int .i64 0, .slice none 0 0] 24)
                have htw := O3.new v1 (.int .i64 0) (.int .i64 0) (.slice none 0 0) 24
                have hgw : some v1.heap.size ≠ (Value.slice A5 p.l.length c5).ownBlock := fun h0 => by have h8 := (oc1.lt _ h0.symm).2; omega
                generalize v1.alloc (.cells #[.int .i64 0, .int .i64 0, .slice none 0 0] 24) = v2 at hs htw ⊢
                have hb2 := bon hb1 hs
                have oc2 := ownsRow_below oc1 hs
                clear hs
                generalize v1.heap.size = gt at htw hgw hgtl0 ⊢
                have hgtl := hgtl0
                clear hgtl0
                have hgt := hgw
                clear hgw
                have ht2 := htw
                clear htw
                refine hK.out _ _ ?_ (fun hHeld => ?_)
                · exact HS.out _ hb2
                clear hK K
                try simp only [Act.put, List.setIfInBounds_toArray, List.set_cons_zero, List.set_cons_succ]
                refine wpAnyH_ready (rs := [11]) (by kernel_rfl) (by simp) ?_
                refine AllReadyH.cons (o := _) rfl (fun K hK => ?_) ?_
                · go_simp
                  have hs := below_new v2 (.cells #[.int .i64 y0.client, .int .i64 y0.number, .string ⟨y0.op.toArray⟩] 42)
                  have hnw := World.news_of_block (cs := #[.int .i64 y0.client, .int .i64 y0.number, .string ⟨y0.op.toArray⟩]) (t := 42) (fr := (0, 0)) (heap_alloc_new v2 (.cells #[.int .i64 y0.client, .int .i64 y0.number, .string ⟨y0.op.toArray⟩] 42))
                  have hlw : v2.heap.size < (v2.alloc (.cells #[.int .i64 y0.client, .int .i64 y0.number, .string ⟨y0.op.toArray⟩] 42)).heap.size := by simp
                  generalize v2.alloc (.cells #[.int .i64 y0.client, .int .i64 y0.number, .string ⟨y0.op.toArray⟩] 42) = v3 at hs hnw hlw ⊢
                  have hb3 := bon hb2 hs
                  have oc3 := ownsRow_below oc2 hs
                  have ht3 := ht2.below hs
                  clear hs
                  generalize v2.heap.size = gn at hnw hlw ⊢
                  have hn3 := hnw
                  have gn3 := hlw
                  clear hnw hlw
                  refine hK.out _ _ ?_ (fun hHeld => ?_)
                  · exact HS.out _ hb3
                  clear hK K
                  try simp only [Act.put, List.setIfInBounds_toArray, List.set_cons_zero, List.set_cons_succ]
                  refine wpAnyH_ready (rs := [12]) (by kernel_rfl) (by simp) ?_
                  refine AllReadyH.cons (o := _) rfl (fun K hK => ?_) ?_
                  · refine step_append_lies _ (by rfl) _ _ _ (by rfl) w5.heap.size 42 i0 _ 3 32 Tryd.underlying22 HI.out HZ0.out HZ1.out HZ2.out rfl (by decide) _ _ _ (by rfl) oc3 _ 1 1 [.int .i64 y0.client, .int .i64 y0.number, .string ⟨y0.op.toArray⟩] (by rfl) (by rfl) hn3 (by simp [Value.oneCell']) Nat.one_pos hmx hby hb3.size _ rfl ?_
                    intro gg cap v4 hown hgrow hat hlt1
                    have hb4 := below_grown hb3 hb3.size hgrow (fun g hg => (oc3.lt g hg).1)
                    have own4 := hown
                    have ht4 := O3.grown ht3 hgrow hgt
                    have hne : gg ≠ gt := fun h0 => by
                      rcases hat with h9 | h9
                      · exact hgt (by rw [h9, h0])
                      · have h8 := ht3.lt; omega
                    clear hown hgrow hat hlt1
                    refine hK.out _ _ ?_ (fun hHeld => ?_)
                    · exact HS.out _ hb4
                    clear hK K
                    try simp only [Act.put, List.setIfInBounds_toArray]
                    refine wpAnyH_take (i := 13) (oi := _) (v := ?_) rfl (by kernel_rfl) (by kernel_rfl) (by kernel_rfl) (fun _ _ _ h => h) (Or.inl ⟨by rfl, ?_⟩) (by assumption) ?_
                    rotate_left
                    · intro w hSw; (try dsimp only at hSw); go_simp; try with_reducible rfl
                    try simp only [Act.put]
                    refine wpAnyH_ready (rs := [15]) (by kernel_rfl) (by simp) ?_
                    refine AllReadyH.cons (o := _) rfl (fun K hK => ?_) ?_
                    · have htk := ht4
                      obtain ⟨tl, t0, t1, t2, t3, t4, t5⟩ := htk
                      go_simp
                      have hb5 := ((hb4.setCell (p := ⟨gt, 0, none⟩) (by show w5.heap.size ≤ gt; exact hgtl) (.int .i64 1)).setCell (p := ⟨gt, 1, none⟩) (by show w5.heap.size ≤ gt; exact hgtl) (.int .i64 0)).setCell (p := ⟨gt, 2, none⟩) (by show w5.heap.size ≤ gt; exact hgtl) (.slice (some ⟨gg, 0, none⟩) (p.l.length + 1) cap)
                      refine hK.out _ _ ?_ (fun hHeld => ?_)
                      · exact HS.out _ hb5
                      clear hK K
                      try simp only [Act.put, List.setIfInBounds_toArray, List.set_cons_zero, List.set_cons_succ]
                      refine wpAnyH_done (by kernel_rfl) ?_ _
                      refine NoPanic.normal ?_
                      have hq8 : Hid (RqIn _ (some ⟨gg, 0, none⟩) cap (p.l ++ [y0])) := Lib.hid (rqIn_sets (own_in (l := p.l ++ [y0]) (by rw [HLm.out, List.flatMap_append]; exact own4) (by rw [HLm.out]; omega) (fun r hr => by
                        rcases List.mem_append.1 hr with h9 | h9
                        · have := HO2.out r (HPmem.out r h9); omega
                        · simp only [List.mem_cons, List.not_mem_nil, or_false] at h9
                          subst h9
                          have := HO2.out r (HYmem.out r (by rw [HYY.out]; simp)); omega)) (b := gt) (fun a ha => by simp only [Option.some.injEq] at ha; subst ha; exact hne) (.int .i64 1) (.int .i64 0) (.slice (some ⟨gg, 0, none⟩) (p.l.length + 1) cap))
                      have ho8 : Hid (O3 _ gt (.int .i64 1) (.int .i64 0) (.slice (some ⟨gg, 0, none⟩) (p.l.length + 1) cap)) := Lib.hid (((ht4.set0 (.int .i64 1)).set1 (.int .i64 0)).set2 (.slice (some ⟨gg, 0, none⟩) (p.l.length + 1) cap))
                      generalize ((v4.setCell ⟨gt, 0, none⟩ (.int .i64 1)).setCell ⟨gt, 1, none⟩ (.int .i64 0)).setCell ⟨gt, 2, none⟩ (.slice (some ⟨gg, 0, none⟩) (p.l.length + 1) cap) = v9 at hq8 ho8 hb5 hHeld ⊢
                      have HB9 := Lib.hid hb5
                      have HEn9 : Hid (Calls Tryd.prog 14 #[.agg #[.int .i64 1, .int .i64 0, .slice (some ⟨gg, 0, none⟩) (p.l.length + 1) cap]] v9 (RetStrErr (encE ⟨1, 0, p.l ++ [y0]⟩) (vEn ⟨1, 0, p.l ++ [y0]⟩) v9)) := Lib.hid (by
                        have h9 := refEncode_any 1 0 (p.l ++ [y0]) (some ⟨gg, 0, none⟩) cap v9 hq8.out
                        rwa [HLm.out] at h9)
                      obtain ⟨u6, u0, u1, u2, u3, u4, u5⟩ := ho8.out
                      have HR9 : Hid (∀ W, Below v9.heap.size v9 W → W.cell? ⟨gt, 2, none⟩ = some (.slice (some ⟨gg, 0, none⟩) (p.l.length + 1) cap)) := Lib.hid (fun W hW => (ho8.out.below hW).c2)
                      clear hq8 ho8 hHeld hne t0 t1 t2 t3 t4 t5 tl hgtl
                      go_wp2_with fail
                      refine HEn9.out.mono ?_
                      rintro e va ⟨rfl, ba⟩
                      have HBa := Lib.hid (bon HB5.out (bon HB9.out ba))
                      have HOa := Lib.hid (ownsRow_below HO5'.out (bon HB9.out ba))
                      have hza : w3.heap.size ≤ va.heap.size := HBa.out.size
                      have x2 := HR9.out va ba
                      have HZs := Lib.hid (not_fits HFit.out)
                      have hfin : (p.l.length + 1 : Int) ≤ k → encE ⟨1, 0, p.l ++ [y0]⟩ = valE ⟨1, 0, p.l ++ [y0]⟩ → b < ((encE ⟨1, 0, p.l ++ [y0]⟩).length : Int) := fun h1 h2 => by
                        have h3 := HZs.out
                        rw [← h2, HLm.out] at h3
                        push_cast at h3
                        omega
                      clear ba u0 u1 u2 u3 u4 u5 u6
                      by_cases hv9 : vEn ⟨1, 0, p.l ++ [y0]⟩ = 0
                      · have hen : encE ⟨1, 0, p.l ++ [y0]⟩ = valE ⟨1, 0, p.l ++ [y0]⟩ := by unfold encE; rw [if_pos hv9]
                        rw [hv9]
                        have hfin2 := fun h1 => hfin h1 hen
                        clear hfin hv9 hen
                        generalize encE ⟨1, 0, p.l ++ [y0]⟩ = ev at hfin2 ⊢
                        by_cases hkk : (p.l.length + 1 : Int) ≤ k
                        · have hbb := hfin2 hkk
                          have hbb2 : ¬ (ev.length : Int) ≤ b := by omega
                          clear hfin2
                          go_wp2_with fail
                          go_roundw
                          case rel => exact ⟨m + 1 + 1, all ++ y.l, A6, c6, by go_num, by omega, by rw [hlen], HTk.out.symm, by omega, HOa.out, HBa.out, by omega⟩
                          case measure => simp [intOf]; omega
                        · by_cases hbb : (ev.length : Int) ≤ b
                          · clear hfin2
                            go_wp2_with fail
                            go_roundw
                            case rel => exact ⟨m + 1 + 1, all ++ y.l, A6, c6, by go_num, by omega, by rw [hlen], HTk.out.symm, by omega, HOa.out, HBa.out, by omega⟩
                            case measure => simp [intOf]; omega
                          · clear hfin2
                            go_wp2_with fail
                            go_roundw
                            case rel => exact ⟨m + 1 + 1, all ++ y.l, A6, c6, by go_num, by omega, by rw [hlen], HTk.out.symm, by omega, HOa.out, HBa.out, by omega⟩
                            case measure => simp [intOf]; omega
                      · generalize vEn ⟨1, 0, p.l ++ [y0]⟩ = v at hv9 ⊢
                        have hv1 : (v == 0) = false := by simpa using hv9
                        clear hfin hv9
                        generalize encE ⟨1, 0, p.l ++ [y0]⟩ = ev
                        go_wp2_with fail
                        go_roundw
                        case rel => exact ⟨m + 1 + 1, all ++ y.l, A6, c6, by go_num, by omega, by rw [hlen], HTk.out.symm, by omega, HOa.out, HBa.out, by omega⟩
                        case measure => simp [intOf]; omega
                    exact AllReadyH.nil
                  exact AllReadyH.nil
                exact AllReadyH.nil
              exact AllReadyH.nil
            refine AllReadyH.cons (o := _) rfl (fun K hK => ?_) ?_
            · go_simp
              have hs := below_new v0 (.cells #[.int .i64 y0.client, .int .i64 y0.number, .string ⟨y0.op.toArray⟩] 42)
              have hnw := World.news_of_block (cs := #[.int .i64 y0.client, .int .i64 y0.number, .string ⟨y0.op.toArray⟩]) (t := 42) (fr := (0, 0)) (heap_alloc_new v0 (.cells #[.int .i64 y0.client, .int .i64 y0.number, .string ⟨y0.op.toArray⟩] 42))
              have hlw : v0.heap.size < (v0.alloc (.cells #[.int .i64 y0.client, .int .i64 y0.number, .string ⟨y0.op.toArray⟩] 42)).heap.size := by simp
              generalize v0.alloc (.cells #[.int .i64 y0.client, .int .i64 y0.number, .string ⟨y0.op.toArray⟩] 42) = v1 at hs hnw hlw ⊢
              have hb1 := bon hb0 hs
              clear hs
              generalize v0.heap.size = gn at hnw hlw ⊢
              have hn1 := hnw
              have gn1 := hlw
              clear hnw hlw
              refine hK.out _ _ ?_ (fun hHeld => ?_)
              · exact HS.out _ hb1
              clear hK K
              try simp only [Act.put, List.setIfInBounds_toArray, List.set_cons_zero, List.set_cons_succ]
              refine wpAnyH_ready (rs := [6, 14]) (by kernel_rfl) (by simp) ?_
              refine AllReadyH.cons (o := _) rfl (fun K hK => ?_) ?_
              · go_simp
                go_at_call 23
                refine (HCl.out _ hb1).mono ?_
                rintro e v2 ⟨A5, c5, rfl, occ, hsep, hs⟩
                go_wp2_with fail
                have hb2 := bon hb1 hs
                have gn2 := Nat.lt_of_lt_of_le gn1 (hs).size
                have hn2 : ∀ i u, #[.int .i64 y0.client, .int .i64 y0.number, .string ⟨y0.op.toArray⟩].toList[i]? = some u → v2.cell? ((⟨gn, 0, none⟩ : Addr).add i) = some u := fun i u hu => by have h9 := hn1 i u hu; rw [add_off] at h9 ⊢; exact ((hs).cell (p := ⟨gn, 0 + i, none⟩) gn1).trans h9
                have oc2 := occ
                clear hs hsep occ
                refine hK.out _ _ ?_ (fun hHeld => ?_)
                · exact HS.out _ hb2
                clear hK K
                try simp only [Act.put, List.setIfInBounds_toArray, List.set_cons_zero, List.set_cons_succ]
                refine wpAnyH_ready (rs := [12, 14]) (by kernel_rfl) (by simp) ?_
                refine AllReadyH.cons (o := _) rfl (fun K hK => ?_) ?_
                · refine step_append_lies _ (by rfl) _ _ _ (by rfl) w5.heap.size 42 i0 _ 3 32 Tryd.underlying22 HI.out HZ0.out HZ1.out HZ2.out rfl (by decide) _ _ _ (by rfl) oc2 _ 1 1 [.int .i64 y0.client, .int .i64 y0.number, .string ⟨y0.op.toArray⟩] (by rfl) (by rfl) hn2 (by simp [Value.oneCell']) Nat.one_pos hmx hby hb2.size _ rfl ?_
                  intro gg cap v3 hown hgrow hat hlt1
                  have hb3 := below_grown hb2 hb2.size hgrow (fun g hg => (oc2.lt g hg).1)
                  have own3 := hown
                  clear hown hgrow hat hlt1
                  refine hK.out _ _ ?_ (fun hHeld => ?_)
                  · exact HS.out _ hb3
                  clear hK K
                  try simp only [Act.put, List.setIfInBounds_toArray]
                  refine wpAnyH_take (i := 13) (oi := _) (v := ?_) rfl (by kernel_rfl) (by kernel_rfl) (by kernel_rfl) (fun _ _ _ h => h) (Or.inl ⟨by rfl, ?_⟩) (by assumption) ?_
                  rotate_left
                  · intro w hSw; (try dsimp only at hSw); go_simp; try with_reducible rfl
                  try simp only [Act.put]
                  refine wpAnyH_ready (rs := [14]) (by kernel_rfl) (by simp) ?_
                  refine AllReadyH.cons (o := _) rfl (fun K hK => ?_) ?_
                  · go_simp
                    have hgtl0 : w5.heap.size ≤ v3.heap.size := hb3.size
                    have hs := below_new v3 (.cells #[.int .i64 0, .int .i64 0, .slice none 0 0] 24)
                    have htw := O3.new v3 (.int .i64 0) (.int .i64 0) (.slice none 0 0) 24
                    have hgw : gg ≠ v3.heap.size := fun h0 => by have h8 := (own3.lt gg rfl).2; omega
                    generalize v3.alloc (.cells #[.int .i64 0, .int .i64 0, .slice none 0 0] 24) = v4 at hs htw ⊢
                    have hb4 := bon hb3 hs
                    have own4 := ownsRow_below own3 hs
                    clear hs
                    generalize v3.heap.size = gt at htw hgw hgtl0 ⊢
                    have hgtl := hgtl0
                    clear hgtl0
                    have hne := hgw
                    clear hgw
                    have ht4 := htw
                    clear htw
                    refine hK.out _ _ ?_ (fun hHeld => ?_)
                    · exact HS.out _ hb4
                    clear hK K
                    try simp only [Act.put, List.setIfInBounds_toArray, List.set_cons_zero, List.set_cons_succ]
                    refine wpAnyH_ready (rs := [15]) (by kernel_rfl) (by simp) ?_
                    refine AllReadyH.cons (o := _) rfl (fun K hK => ?_) ?_
                    · have htk := ht4
                      obtain ⟨tl, t0, t1, t2, t3, t4, t5⟩ := htk
                      go_simp
                      have hb5 := ((hb4.setCell (p := ⟨gt, 0, none⟩) (by show w5.heap.size ≤ gt; exact hgtl) (.int .i64 1)).setCell (p := ⟨gt, 1, none⟩) (by show w5.heap.size ≤ gt; exact hgtl) (.int .i64 0)).setCell (p := ⟨gt, 2, none⟩) (by show w5.heap.size ≤ gt; exact hgtl) (.slice (some ⟨gg, 0, none⟩) (p.l.length + 1) cap)
                      refine hK.out _ _ ?_ (fun hHeld => ?_)
                      · exact HS.out _ hb5
                      clear hK K
                      try simp only [Act.put, List.setIfInBounds_toArray, List.set_cons_zero, List.set_cons_succ]
                      refine wpAnyH_done (by kernel_rfl) ?_ _
                      refine NoPanic.normal ?_
                      have hq8 : Hid (RqIn _ (some ⟨gg, 0, none⟩) cap (p.l ++ [y0])) := Lib.hid (rqIn_sets (own_in (l := p.l ++ [y0]) (by rw [HLm.out, List.flatMap_append]; exact own4) (by rw [HLm.out]; omega) (fun r hr => by
                        rcases List.mem_append.1 hr with h9 | h9
                        · have := HO2.out r (HPmem.out r h9); omega
                        · simp only [List.mem_cons, List.not_mem_nil, or_false] at h9
                          subst h9
                          have := HO2.out r (HYmem.out r (by rw [HYY.out]; simp)); omega)) (b := gt) (fun a ha => by simp only [Option.some.injEq] at ha; subst ha; exact hne) (.int .i64 1) (.int .i64 0) (.slice (some ⟨gg, 0, none⟩) (p.l.length + 1) cap))
                      have ho8 : Hid (O3 _ gt (.int .i64 1) (.int .i64 0) (.slice (some ⟨gg, 0, none⟩) (p.l.length + 1) cap)) := Lib.hid (((ht4.set0 (.int .i64 1)).set1 (.int .i64 0)).set2 (.slice (some ⟨gg, 0, none⟩) (p.l.length + 1) cap))
                      generalize ((v4.setCell ⟨gt, 0, none⟩ (.int .i64 1)).setCell ⟨gt, 1, none⟩ (.int .i64 0)).setCell ⟨gt, 2, none⟩ (.slice (some ⟨gg, 0, none⟩) (p.l.length + 1) cap) = v9 at hq8 ho8 hb5 hHeld ⊢
                      have HB9 := Lib.hid hb5
                      have HEn9 : Hid (Calls Tryd.prog 14 #[.agg #[.int .i64 1, .int .i64 0, .slice (some ⟨gg, 0, none⟩) (p.l.length + 1) cap]] v9 (RetStrErr (encE ⟨1, 0, p.l ++ [y0]⟩) (vEn ⟨1, 0, p.l ++ [y0]⟩) v9)) := Lib.hid (by
                        have h9 := refEncode_any 1 0 (p.l ++ [y0]) (some ⟨gg, 0, none⟩) cap v9 hq8.out
                        rwa [HLm.out] at h9)
                      obtain ⟨u6, u0, u1, u2, u3, u4, u5⟩ := ho8.out
                      have HR9 : Hid (∀ W, Below v9.heap.size v9 W → W.cell? ⟨gt, 2, none⟩ = some (.slice (some ⟨gg, 0, none⟩) (p.l.length + 1) cap)) := Lib.hid (fun W hW => (ho8.out.below hW).c2)
                      clear hq8 ho8 hHeld hne t0 t1 t2 t3 t4 t5 tl hgtl
                      go_wp2_with fail
                      refine HEn9.out.mono ?_
                      rintro e va ⟨rfl, ba⟩
                      have HBa := Lib.hid (bon HB5.out (bon HB9.out ba))
                      have HOa := Lib.hid (ownsRow_below HO5'.out (bon HB9.out ba))
                      have hza : w3.heap.size ≤ va.heap.size := HBa.out.size
                      have x2 := HR9.out va ba
                      have HZs := Lib.hid (not_fits HFit.out)
                      have hfin : (p.l.length + 1 : Int) ≤ k → encE ⟨1, 0, p.l ++ [y0]⟩ = valE ⟨1, 0, p.l ++ [y0]⟩ → b < ((encE ⟨1, 0, p.l ++ [y0]⟩).length : Int) := fun h1 h2 => by
                        have h3 := HZs.out
                        rw [← h2, HLm.out] at h3
                        push_cast at h3
                        omega
                      clear ba u0 u1 u2 u3 u4 u5 u6
                      by_cases hv9 : vEn ⟨1, 0, p.l ++ [y0]⟩ = 0
                      · have hen : encE ⟨1, 0, p.l ++ [y0]⟩ = valE ⟨1, 0, p.l ++ [y0]⟩ := by unfold encE; rw [if_pos hv9]
                        rw [hv9]
                        have hfin2 := fun h1 => hfin h1 hen
                        clear hfin hv9 hen
                        generalize encE ⟨1, 0, p.l ++ [y0]⟩ = ev at hfin2 ⊢
                        by_cases hkk : (p.l.length + 1 : Int) ≤ k
                        · have hbb := hfin2 hkk
                          have hbb2 : ¬ (ev.length : Int) ≤ b := by omega
                          clear hfin2
                          go_wp2_with fail
                          go_roundw
                          case rel => exact ⟨m + 1 + 1, all ++ y.l, A6, c6, by go_num, by omega, by rw [hlen], HTk.out.symm, by omega, HOa.out, HBa.out, by omega⟩
                          case measure => simp [intOf]; omega
                        · by_cases hbb : (ev.length : Int) ≤ b
                          · clear hfin2
                            go_wp2_with fail
                            go_roundw
                            case rel => exact ⟨m + 1 + 1, all ++ y.l, A6, c6, by go_num, by omega, by rw [hlen], HTk.out.symm, by omega, HOa.out, HBa.out, by omega⟩
                            case measure => simp [intOf]; omega
                          · clear hfin2
                            go_wp2_with fail
                            go_roundw
                            case rel => exact ⟨m + 1 + 1, all ++ y.l, A6, c6, by go_num, by omega, by rw [hlen], HTk.out.symm, by omega, HOa.out, HBa.out, by omega⟩
                            case measure => simp [intOf]; omega
                      · generalize vEn ⟨1, 0, p.l ++ [y0]⟩ = v at hv9 ⊢
                        have hv1 : (v == 0) = false := by simpa using hv9
                        clear hfin hv9
                        generalize encE ⟨1, 0, p.l ++ [y0]⟩ = ev
                        go_wp2_with fail
                        go_roundw
                        case rel => exact ⟨m + 1 + 1, all ++ y.l, A6, c6, by go_num, by omega, by rw [hlen], HTk.out.symm, by omega, HOa.out, HBa.out, by omega⟩
                        case measure => simp [intOf]; omega
                    exact AllReadyH.nil
                  exact AllReadyH.nil
                refine AllReadyH.cons (o := _) rfl (fun K hK => ?_) ?_
                · go_simp
                  have hgtl0 : w5.heap.size ≤ v2.heap.size := hb2.size
                  have hs := below_new v2 (.cells #[.int .i64 0, .int .i64 0, .slice none 0 0] 24)
                  have htw := O3.new v2 (.int .i64 0) (.int .i64 0) (.slice none 0 0) 24
                  have hgw : some v2.heap.size ≠ (Value.slice A5 p.l.length c5).ownBlock := fun h0 => by have h8 := (oc2.lt _ h0.symm).2; omega
                  generalize v2.alloc (.cells #[.int .i64 0, .int .i64 0, .slice none 0 0] 24) = v3 at hs htw ⊢
                  have hb3 := bon hb2 hs
                  have oc3 := ownsRow_below oc2 hs
                  have gn3 := Nat.lt_of_lt_of_le gn2 (hs).size
                  have hn3 : ∀ i u, #[.int .i64 y0.client, .int .i64 y0.number, .string ⟨y0.op.toArray⟩].toList[i]? = some u → v3.cell? ((⟨gn, 0, none⟩ : Addr).add i) = some u := fun i u hu => by have h9 := hn2 i u hu; rw [add_off] at h9 ⊢; exact ((hs).cell (p := ⟨gn, 0 + i, none⟩) gn2).trans h9
                  clear hs
                  generalize v2.heap.size = gt at htw hgw hgtl0 ⊢
                  have hgtl := hgtl0
                  clear hgtl0
                  have hgt := hgw
                  clear hgw
                  have ht3 := htw
                  clear htw
                  refine hK.out _ _ ?_ (fun hHeld => ?_)
                  · exact HS.out _ hb3
                  clear hK K
                  try simp only [Act.put, List.setIfInBounds_toArray, List.set_cons_zero, List.set_cons_succ]
                  refine wpAnyH_ready (rs := [12]) (by kernel_rfl) (by simp) ?_
                  refine AllReadyH.cons (o := _) rfl (fun K hK => ?_) ?_
                  · refine step_append_lies _ (by rfl) _ _ _ (by rfl) w5.heap.size 42 i0 _ 3 32 Tryd.underlying22 HI.out HZ0.out HZ1.out HZ2.out rfl (by decide) _ _ _ (by rfl) oc3 _ 1 1 [.int .i64 y0.client, .int .i64 y0.number, .string ⟨y0.op.toArray⟩] (by rfl) (by rfl) hn3 (by simp [Value.oneCell']) Nat.one_pos hmx hby hb3.size _ rfl ?_
                    intro gg cap v4 hown hgrow hat hlt1
                    have hb4 := below_grown hb3 hb3.size hgrow (fun g hg => (oc3.lt g hg).1)
                    have own4 := hown
                    have ht4 := O3.grown ht3 hgrow hgt
                    have hne : gg ≠ gt := fun h0 => by
                      rcases hat with h9 | h9
                      · exact hgt (by rw [h9, h0])
                      · have h8 := ht3.lt; omega
                    clear hown hgrow hat hlt1
                    refine hK.out _ _ ?_ (fun hHeld => ?_)
                    · exact HS.out _ hb4
                    clear hK K
                    try simp only [Act.put, List.setIfInBounds_toArray]
                    refine wpAnyH_take (i := 13) (oi := _) (v := ?_) rfl (by kernel_rfl) (by kernel_rfl) (by kernel_rfl) (fun _ _ _ h => h) (Or.inl ⟨by rfl, ?_⟩) (by assumption) ?_
                    rotate_left
                    · intro w hSw; (try dsimp only at hSw); go_simp; try with_reducible rfl
                    try simp only [Act.put]
                    refine wpAnyH_ready (rs := [15]) (by kernel_rfl) (by simp) ?_
                    refine AllReadyH.cons (o := _) rfl (fun K hK => ?_) ?_
                    · have htk := ht4
                      obtain ⟨tl, t0, t1, t2, t3, t4, t5⟩ := htk
                      go_simp
                      have hb5 := ((hb4.setCell (p := ⟨gt, 0, none⟩) (by show w5.heap.size ≤ gt; exact hgtl) (.int .i64 1)).setCell (p := ⟨gt, 1, none⟩) (by show w5.heap.size ≤ gt; exact hgtl) (.int .i64 0)).setCell (p := ⟨gt, 2, none⟩) (by show w5.heap.size ≤ gt; exact hgtl) (.slice (some ⟨gg, 0, none⟩) (p.l.length + 1) cap)
                      refine hK.out _ _ ?_ (fun hHeld => ?_)
                      · exact HS.out _ hb5
                      clear hK K
                      try simp only [Act.put, List.setIfInBounds_toArray, List.set_cons_zero, List.set_cons_succ]
                      refine wpAnyH_done (by kernel_rfl) ?_ _
                      refine NoPanic.normal ?_
                      have hq8 : Hid (RqIn _ (some ⟨gg, 0, none⟩) cap (p.l ++ [y0])) := Lib.hid (rqIn_sets (own_in (l := p.l ++ [y0]) (by rw [HLm.out, List.flatMap_append]; exact own4) (by rw [HLm.out]; omega) (fun r hr => by
                        rcases List.mem_append.1 hr with h9 | h9
                        · have := HO2.out r (HPmem.out r h9); omega
                        · simp only [List.mem_cons, List.not_mem_nil, or_false] at h9
                          subst h9
                          have := HO2.out r (HYmem.out r (by rw [HYY.out]; simp)); omega)) (b := gt) (fun a ha => by simp only [Option.some.injEq] at ha; subst ha; exact hne) (.int .i64 1) (.int .i64 0) (.slice (some ⟨gg, 0, none⟩) (p.l.length + 1) cap))
                      have ho8 : Hid (O3 _ gt (.int .i64 1) (.int .i64 0) (.slice (some ⟨gg, 0, none⟩) (p.l.length + 1) cap)) := Lib.hid (((ht4.set0 (.int .i64 1)).set1 (.int .i64 0)).set2 (.slice (some ⟨gg, 0, none⟩) (p.l.length + 1) cap))
                      generalize ((v4.setCell ⟨gt, 0, none⟩ (.int .i64 1)).setCell ⟨gt, 1, none⟩ (.int .i64 0)).setCell ⟨gt, 2, none⟩ (.slice (some ⟨gg, 0, none⟩) (p.l.length + 1) cap) = v9 at hq8 ho8 hb5 hHeld ⊢
                      have HB9 := Lib.hid hb5
                      have HEn9 : Hid (Calls Tryd.prog 14 #[.agg #[.int .i64 1, .int .i64 0, .slice (some ⟨gg, 0, none⟩) (p.l.length + 1) cap]] v9 (RetStrErr (encE ⟨1, 0, p.l ++ [y0]⟩) (vEn ⟨1, 0, p.l ++ [y0]⟩) v9)) := Lib.hid (by
                        have h9 := refEncode_any 1 0 (p.l ++ [y0]) (some ⟨gg, 0, none⟩) cap v9 hq8.out
                        rwa [HLm.out] at h9)
                      obtain ⟨u6, u0, u1, u2, u3, u4, u5⟩ := ho8.out
                      have HR9 : Hid (∀ W, Below v9.heap.size v9 W → W.cell? ⟨gt, 2, none⟩ = some (.slice (some ⟨gg, 0, none⟩) (p.l.length + 1) cap)) := Lib.hid (fun W hW => (ho8.out.below hW).c2)
                      clear hq8 ho8 hHeld hne t0 t1 t2 t3 t4 t5 tl hgtl
                      go_wp2_with fail
                      refine HEn9.out.mono ?_
                      rintro e va ⟨rfl, ba⟩
                      have HBa := Lib.hid (bon HB5.out (bon HB9.out ba))
                      have HOa := Lib.hid (ownsRow_below HO5'.out (bon HB9.out ba))
                      have hza : w3.heap.size ≤ va.heap.size := HBa.out.size
                      have x2 := HR9.out va ba
                      have HZs := Lib.hid (not_fits HFit.out)
                      have hfin : (p.l.length + 1 : Int) ≤ k → encE ⟨1, 0, p.l ++ [y0]⟩ = valE ⟨1, 0, p.l ++ [y0]⟩ → b < ((encE ⟨1, 0, p.l ++ [y0]⟩).length : Int) := fun h1 h2 => by
                        have h3 := HZs.out
                        rw [← h2, HLm.out] at h3
                        push_cast at h3
                        omega
                      clear ba u0 u1 u2 u3 u4 u5 u6
                      by_cases hv9 : vEn ⟨1, 0, p.l ++ [y0]⟩ = 0
                      · have hen : encE ⟨1, 0, p.l ++ [y0]⟩ = valE ⟨1, 0, p.l ++ [y0]⟩ := by unfold encE; rw [if_pos hv9]
                        rw [hv9]
                        have hfin2 := fun h1 => hfin h1 hen
                        clear hfin hv9 hen
                        generalize encE ⟨1, 0, p.l ++ [y0]⟩ = ev at hfin2 ⊢
                        by_cases hkk : (p.l.length + 1 : Int) ≤ k
                        · have hbb := hfin2 hkk
                          have hbb2 : ¬ (ev.length : Int) ≤ b := by omega
                          clear hfin2
                          go_wp2_with fail
                          go_roundw
                          case rel => exact ⟨m + 1 + 1, all ++ y.l, A6, c6, by go_num, by omega, by rw [hlen], HTk.out.symm, by omega, HOa.out, HBa.out, by omega⟩
                          case measure => simp [intOf]; omega
                        · by_cases hbb : (ev.length : Int) ≤ b
                          · clear hfin2
                            go_wp2_with fail
                            go_roundw
                            case rel => exact ⟨m + 1 + 1, all ++ y.l, A6, c6, by go_num, by omega, by rw [hlen], HTk.out.symm, by omega, HOa.out, HBa.out, by omega⟩
                            case measure => simp [intOf]; omega
                          · clear hfin2
                            go_wp2_with fail
                            go_roundw
                            case rel => exact ⟨m + 1 + 1, all ++ y.l, A6, c6, by go_num, by omega, by rw [hlen], HTk.out.symm, by omega, HOa.out, HBa.out, by omega⟩
                            case measure => simp [intOf]; omega
                      · generalize vEn ⟨1, 0, p.l ++ [y0]⟩ = v at hv9 ⊢
                        have hv1 : (v == 0) = false := by simpa using hv9
                        clear hfin hv9
                        generalize encE ⟨1, 0, p.l ++ [y0]⟩ = ev
                        go_wp2_with fail
                        go_roundw
                        case rel => exact ⟨m + 1 + 1, all ++ y.l, A6, c6, by go_num, by omega, by rw [hlen], HTk.out.symm, by omega, HOa.out, HBa.out, by omega⟩
                        case measure => simp [intOf]; omega
                    exact AllReadyH.nil
                  exact AllReadyH.nil
                exact AllReadyH.nil
              refine AllReadyH.cons (o := _) rfl (fun K hK => ?_) ?_
              · go_simp
                have hgtl0 : w5.heap.size ≤ v1.heap.size := hb1.size
                have hs := below_new v1 (.cells #[.int .i64 0, .int .i64 0, .slice none 0 0] 24)
                have htw := O3.new v1 (.int .i64 0) (.int .i64 0) (.slice none 0 0) 24
                generalize v1.alloc (.cells #[.int .i64 0, .int .i64 0, .slice none 0 0] 24) = v2 at hs htw ⊢
                have hb2 := bon hb1 hs
                have gn2 := Nat.lt_of_lt_of_le gn1 (hs).size
                have hn2 : ∀ i u, #[.int .i64 y0.client, .int .i64 y0.number, .string ⟨y0.op.toArray⟩].toList[i]? = some u → v2.cell? ((⟨gn, 0, none⟩ : Addr).add i) = some u := fun i u hu => by have h9 := hn1 i u hu; rw [add_off] at h9 ⊢; exact ((hs).cell (p := ⟨gn, 0 + i, none⟩) gn1).trans h9
                clear hs
                generalize v1.heap.size = gt at htw hgtl0 ⊢
                have hgtl := hgtl0
                clear hgtl0
                have ht2 := htw
                clear htw
                refine hK.out _ _ ?_ (fun hHeld => ?_)
                · exact HS.out _ hb2
                clear hK K
                try simp only [Act.put, List.setIfInBounds_toArray, List.set_cons_zero, List.set_cons_succ]
                refine wpAnyH_ready (rs := [6]) (by kernel_rfl) (by simp) ?_
                refine AllReadyH.cons (o := _) rfl (fun K hK => ?_) ?_
                · go_simp
                  go_at_call 23
                  refine (HCl.out _ hb2).mono ?_
                  rintro e v3 ⟨A5, c5, rfl, occ, hsep, hs⟩
                  go_wp2_with fail
                  have hb3 := bon hb2 hs
                  have gn3 := Nat.lt_of_lt_of_le gn2 (hs).size
                  have hn3 : ∀ i u, #[.int .i64 y0.client, .int .i64 y0.number, .string ⟨y0.op.toArray⟩].toList[i]? = some u → v3.cell? ((⟨gn, 0, none⟩ : Addr).add i) = some u := fun i u hu => by have h9 := hn2 i u hu; rw [add_off] at h9 ⊢; exact ((hs).cell (p := ⟨gn, 0 + i, none⟩) gn2).trans h9
                  have ht3 := ht2.below hs
                  have oc3 := occ
                  have hgt : some gt ≠ (Value.slice A5 p.l.length c5).ownBlock := fun h0 => by have h8 := hsep gt h0.symm; have h9 := ht2.lt; omega
                  clear hs hsep occ
                  refine hK.out _ _ ?_ (fun hHeld => ?_)
                  · exact HS.out _ hb3
                  clear hK K
                  try simp only [Act.put, List.setIfInBounds_toArray, List.set_cons_zero, List.set_cons_succ]
                  refine wpAnyH_ready (rs := [12]) (by kernel_rfl) (by simp) ?_
                  refine AllReadyH.cons (o := _) rfl (fun K hK => ?_) ?_
                  · refine step_append_lies _ (by rfl) _ _ _ (by rfl) w5.heap.size 42 i0 _ 3 32 Tryd.underlying22 HI.out HZ0.out HZ1.out HZ2.out rfl (by decide) _ _ _ (by rfl) oc3 _ 1 1 [.int .i64 y0.client, .int .i64 y0.number, .string ⟨y0.op.toArray⟩] (by rfl) (by rfl) hn3 (by simp [Value.oneCell']) Nat.one_pos hmx hby hb3.size _ rfl ?_
                    intro gg cap v4 hown hgrow hat hlt1
                    have hb4 := below_grown hb3 hb3.size hgrow (fun g hg => (oc3.lt g hg).1)
                    have own4 := hown
                    have ht4 := O3.grown ht3 hgrow hgt
                    have hne : gg ≠ gt := fun h0 => by
                      rcases hat with h9 | h9
                      · exact hgt (by rw [h9, h0])
                      · have h8 := ht3.lt; omega
                    clear hown hgrow hat hlt1
                    refine hK.out _ _ ?_ (fun hHeld => ?_)
                    · exact HS.out _ hb4
                    clear hK K
                    try simp only [Act.put, List.setIfInBounds_toArray]
                    refine wpAnyH_take (i := 13) (oi := _) (v := ?_) rfl (by kernel_rfl) (by kernel_rfl) (by kernel_rfl) (fun _ _ _ h => h) (Or.inl ⟨by rfl, ?_⟩) (by assumption) ?_
                    rotate_left
                    · intro w hSw; (try dsimp only at hSw); go_simp; try with_reducible rfl
                    try simp only [Act.put]
                    refine wpAnyH_ready (rs := [15]) (by kernel_rfl) (by simp) ?_
                    refine AllReadyH.cons (o := _) rfl (fun K hK => ?_) ?_
                    · have htk := ht4
                      obtain ⟨tl, t0, t1, t2, t3, t4, t5⟩ := htk
                      go_simp
                      have hb5 := ((hb4.setCell (p := ⟨gt, 0, none⟩) (by show w5.heap.size ≤ gt; exact hgtl) (.int .i64 1)).setCell (p := ⟨gt, 1, none⟩) (by show w5.heap.size ≤ gt; exact hgtl) (.int .i64 0)).setCell (p := ⟨gt, 2, none⟩) (by show w5.heap.size ≤ gt; exact hgtl) (.slice (some ⟨gg, 0, none⟩) (p.l.length + 1) cap)
                      refine hK.out _ _ ?_ (fun hHeld => ?_)
                      · exact HS.out _ hb5
                      clear hK K
                      try simp only [Act.put, List.setIfInBounds_toArray, List.set_cons_zero, List.set_cons_succ]
                      refine wpAnyH_done (by kernel_rfl) ?_ _
                      refine NoPanic.normal ?_
                      have hq8 : Hid (RqIn _ (some ⟨gg, 0, none⟩) cap (p.l ++ [y0])) := Lib.hid (rqIn_sets (own_in (l := p.l ++ [y0]) (by rw [HLm.out, List.flatMap_append]; exact own4) (by rw [HLm.out]; omega) (fun r hr => by
                        rcases List.mem_append.1 hr with h9 | h9
                        · have := HO2.out r (HPmem.out r h9); omega
                        · simp only [List.mem_cons, List.not_mem_nil, or_false] at h9
                          subst h9
                          have := HO2.out r (HYmem.out r (by rw [HYY.out]; simp)); omega)) (b := gt) (fun a ha => by simp only [Option.some.injEq] at ha; subst ha; exact hne) (.int .i64 1) (.int .i64 0) (.slice (some ⟨gg, 0, none⟩) (p.l.length + 1) cap))
                      have ho8 : Hid (O3 _ gt (.int .i64 1) (.int .i64 0) (.slice (some ⟨gg, 0, none⟩) (p.l.length + 1) cap)) := Lib.hid (((ht4.set0 (.int .i64 1)).set1 (.int .i64 0)).set2 (.slice (some ⟨gg, 0, none⟩) (p.l.length + 1) cap))
                      generalize ((v4.setCell ⟨gt, 0, none⟩ (.int .i64 1)).setCell ⟨gt, 1, none⟩ (.int .i64 0)).setCell ⟨gt, 2, none⟩ (.slice (some ⟨gg, 0, none⟩) (p.l.length + 1) cap) = v9 at hq8 ho8 hb5 hHeld ⊢
                      have HB9 := Lib.hid hb5
                      have HEn9 : Hid (Calls Tryd.prog 14 #[.agg #[.int .i64 1, .int .i64 0, .slice (some ⟨gg, 0, none⟩) (p.l.length + 1) cap]] v9 (RetStrErr (encE ⟨1, 0, p.l ++ [y0]⟩) (vEn ⟨1, 0, p.l ++ [y0]⟩) v9)) := Lib.hid (by
                        have h9 := refEncode_any 1 0 (p.l ++ [y0]) (some ⟨gg, 0, none⟩) cap v9 hq8.out
                        rwa [HLm.out] at h9)
                      obtain ⟨u6, u0, u1, u2, u3, u4, u5⟩ := ho8.out
                      have HR9 : Hid (∀ W, Below v9.heap.size v9 W → W.cell? ⟨gt, 2, none⟩ = some (.slice (some ⟨gg, 0, none⟩) (p.l.length + 1) cap)) := Lib.hid (fun W hW => (ho8.out.below hW).c2)
                      clear hq8 ho8 hHeld hne t0 t1 t2 t3 t4 t5 tl hgtl
                      go_wp2_with fail
                      refine HEn9.out.mono ?_
                      rintro e va ⟨rfl, ba⟩
                      have HBa := Lib.hid (bon HB5.out (bon HB9.out ba))
                      have HOa := Lib.hid (ownsRow_below HO5'.out (bon HB9.out ba))
                      have hza : w3.heap.size ≤ va.heap.size := HBa.out.size
                      have x2 := HR9.out va ba
                      have HZs := Lib.hid (not_fits HFit.out)
                      have hfin : (p.l.length + 1 : Int) ≤ k → encE ⟨1, 0, p.l ++ [y0]⟩ = valE ⟨1, 0, p.l ++ [y0]⟩ → b < ((encE ⟨1, 0, p.l ++ [y0]⟩).length : Int) := fun h1 h2 => by
                        have h3 := HZs.out
                        rw [← h2, HLm.out] at h3
                        push_cast at h3
                        omega
                      clear ba u0 u1 u2 u3 u4 u5 u6
                      by_cases hv9 : vEn ⟨1, 0, p.l ++ [y0]⟩ = 0
                      · have hen : encE ⟨1, 0, p.l ++ [y0]⟩ = valE ⟨1, 0, p.l ++ [y0]⟩ := by unfold encE; rw [if_pos hv9]
                        rw [hv9]
                        have hfin2 := fun h1 => hfin h1 hen
                        clear hfin hv9 hen
                        generalize encE ⟨1, 0, p.l ++ [y0]⟩ = ev at hfin2 ⊢
                        by_cases hkk : (p.l.length + 1 : Int) ≤ k
                        · have hbb := hfin2 hkk
                          have hbb2 : ¬ (ev.length : Int) ≤ b := by omega
                          clear hfin2
                          go_wp2_with fail
                          go_roundw
                          case rel => exact ⟨m + 1 + 1, all ++ y.l, A6, c6, by go_num, by omega, by rw [hlen], HTk.out.symm, by omega, HOa.out, HBa.out, by omega⟩
                          case measure => simp [intOf]; omega
                        · by_cases hbb : (ev.length : Int) ≤ b
                          · clear hfin2
                            go_wp2_with fail
                            go_roundw
                            case rel => exact ⟨m + 1 + 1, all ++ y.l, A6, c6, by go_num, by omega, by rw [hlen], HTk.out.symm, by omega, HOa.out, HBa.out, by omega⟩
                            case measure => simp [intOf]; omega
                          · clear hfin2
                            go_wp2_with fail
                            go_roundw
                            case rel => exact ⟨m + 1 + 1, all ++ y.l, A6, c6, by go_num, by omega, by rw [hlen], HTk.out.symm, by omega, HOa.out, HBa.out, by omega⟩
                            case measure => simp [intOf]; omega
                      · generalize vEn ⟨1, 0, p.l ++ [y0]⟩ = v at hv9 ⊢
                        have hv1 : (v == 0) = false := by simpa using hv9
                        clear hfin hv9
                        generalize encE ⟨1, 0, p.l ++ [y0]⟩ = ev
                        go_wp2_with fail
                        go_roundw
                        case rel => exact ⟨m + 1 + 1, all ++ y.l, A6, c6, by go_num, by omega, by rw [hlen], HTk.out.symm, by omega, HOa.out, HBa.out, by omega⟩
                        case measure => simp [intOf]; omega
                    exact AllReadyH.nil
                  exact AllReadyH.nil
                exact AllReadyH.nil
              exact AllReadyH.nil
            refine AllReadyH.cons (o := _) rfl (fun K hK => ?_) ?_
            · go_simp
              have hgtl0 : w5.heap.size ≤ v0.heap.size := hb0.size
              have hs := below_new v0 (.cells #[.int .i64 0, .int .i64 0, .slice none 0 0] 24)
              have htw := O3.new v0 (.int .i64 0) (.int .i64 0) (.slice none 0 0) 24
              generalize v0.alloc (.cells #[.int .i64 0, .int .i64 0, .slice none 0 0] 24) = v1 at hs htw ⊢
              have hb1 := bon hb0 hs
              clear hs
              generalize v0.heap.size = gt at htw hgtl0 ⊢
              have hgtl := hgtl0
              clear hgtl0
              have ht1 := htw
              clear htw
              refine hK.out _ _ ?_ (fun hHeld => ?_)
              · exact HS.out _ hb1
              clear hK K
              try simp only [Act.put, List.setIfInBounds_toArray, List.set_cons_zero, List.set_cons_succ]
              refine wpAnyH_ready (rs := [6, 11]) (by kernel_rfl) (by simp) ?_
              refine AllReadyH.cons (o := _) rfl (fun K hK => ?_) ?_
              · go_simp
                go_at_call 23
                refine (HCl.out _ hb1).mono ?_
                rintro e v2 ⟨A5, c5, rfl, occ, hsep, hs⟩
                go_wp2_with fail
                have hb2 := bon hb1 hs
                have ht2 := ht1.below hs
                have oc2 := occ
                have hgt : some gt ≠ (Value.slice A5 p.l.length c5).ownBlock := fun h0 => by have h8 := hsep gt h0.symm; have h9 := ht1.lt; omega
                clear hs hsep occ
                refine hK.out _ _ ?_ (fun hHeld => ?_)
                · exact HS.out _ hb2
                clear hK K
                try simp only [Act.put, List.setIfInBounds_toArray, List.set_cons_zero, List.set_cons_succ]
                refine wpAnyH_ready (rs := [11]) (by kernel_rfl) (by simp) ?_
                refine AllReadyH.cons (o := _) rfl (fun K hK => ?_) ?_
                · go_simp
                  have hs := below_new v2 (.cells #[.int .i64 y0.client, .int .i64 y0.number, .string ⟨y0.op.toArray⟩] 42)
                  have hnw := World.news_of_block (cs := #[.int .i64 y0.client, .int .i64 y0.number, .string ⟨y0.op.toArray⟩]) (t := 42) (fr := (0, 0)) (heap_alloc_new v2 (.cells #[.int .i64 y0.client, .int .i64 y0.number, .string ⟨y0.op.toArray⟩] 42))
                  have hlw : v2.heap.size < (v2.alloc (.cells #[.int .i64 y0.client, .int .i64 y0.number, .string ⟨y0.op.toArray⟩] 42)).heap.size := by simp
                  generalize v2.alloc (.cells #[.int .i64 y0.client, .int .i64 y0.number, .string ⟨y0.op.toArray⟩] 42) = v3 at hs hnw hlw ⊢
                  have hb3 := bon hb2 hs
                  have oc3 := ownsRow_below oc2 hs
                  have ht3 := ht2.below hs
                  clear hs
                  generalize v2.heap.size = gn at hnw hlw ⊢
                  have hn3 := hnw
                  have gn3 := hlw
                  clear hnw hlw
                  refine hK.out _ _ ?_ (fun hHeld => ?_)
                  · exact HS.out _ hb3
                  clear hK K
                  try simp only [Act.put, List.setIfInBounds_toArray, List.set_cons_zero, List.set_cons_succ]
                  refine wpAnyH_ready (rs := [12]) (by kernel_rfl) (by simp) ?_
                  refine AllReadyH.cons (o := _) rfl (fun K hK => ?_) ?_
                  · refine step_append_lies _ (by rfl) _ _ _ (by rfl) w5.heap.size 42 i0 _ 3 32 Tryd.underlying22 HI.out HZ0.out HZ1.out HZ2.out rfl (by decide) _ _ _ (by rfl) oc3 _ 1 1 [.int .i64 y0.client, .int .i64 y0.number, .string ⟨y0.op.toArray⟩] (by rfl) (by rfl) hn3 (by simp [Value.oneCell']) Nat.one_pos hmx hby hb3.size _ rfl ?_
                    intro gg cap v4 hown hgrow hat hlt1
                    have hb4 := below_grown hb3 hb3.size hgrow (fun g hg => (oc3.lt g hg).1)
                    have own4 := hown
                    have ht4 := O3.grown ht3 hgrow hgt
                    have hne : gg ≠ gt := fun h0 => by
                      rcases hat with h9 | h9
                      · exact hgt (by rw [h9, h0])
                      · have h8 := ht3.lt; omega
                    clear hown hgrow hat hlt1
                    refine hK.out _ _ ?_ (fun hHeld => ?_)
                    · exact HS.out _ hb4
                    clear hK K
                    try simp only [Act.put, List.setIfInBounds_toArray]
                    refine wpAnyH_take (i := 13) (oi := _) (v := ?_) rfl (by kernel_rfl) (by kernel_rfl) (by kernel_rfl) (fun _ _ _ h => h) (Or.inl ⟨by rfl, ?_⟩) (by assumption) ?_
                    rotate_left
                    · intro w hSw; (try dsimp only at hSw); go_simp; try with_reducible rfl
                    try simp only [Act.put]
                    refine wpAnyH_ready (rs := [15]) (by kernel_rfl) (by simp) ?_
                    refine AllReadyH.cons (o := _) rfl (fun K hK => ?_) ?_
                    · have htk := ht4
                      obtain ⟨tl, t0, t1, t2, t3, t4, t5⟩ := htk
                      go_simp
                      have hb5 := ((hb4.setCell (p := ⟨gt, 0, none⟩) (by show w5.heap.size ≤ gt; exact hgtl) (.int .i64 1)).setCell (p := ⟨gt, 1, none⟩) (by show w5.heap.size ≤ gt; exact hgtl) (.int .i64 0)).setCell (p := ⟨gt, 2, none⟩) (by show w5.heap.size ≤ gt; exact hgtl) (.slice (some ⟨gg, 0, none⟩) (p.l.length + 1) cap)
                      refine hK.out _ _ ?_ (fun hHeld => ?_)
                      · exact HS.out _ hb5
                      clear hK K
                      try simp only [Act.put, List.setIfInBounds_toArray, List.set_cons_zero, List.set_cons_succ]
                      refine wpAnyH_done (by kernel_rfl) ?_ _
                      refine NoPanic.normal ?_
                      have hq8 : Hid (RqIn _ (some ⟨gg, 0, none⟩) cap (p.l ++ [y0])) := Lib.hid (rqIn_sets (own_in (l := p.l ++ [y0]) (by rw [HLm.out, List.flatMap_append]; exact own4) (by rw [HLm.out]; omega) (fun r hr => by
                        rcases List.mem_append.1 hr with h9 | h9
                        · have := HO2.out r (HPmem.out r h9); omega
                        · simp only [List.mem_cons, List.not_mem_nil, or_false] at h9
                          subst h9
                          have := HO2.out r (HYmem.out r (by rw [HYY.out]; simp)); omega)) (b := gt) (fun a ha => by simp only [Option.some.injEq] at ha; subst ha; exact hne) (.int .i64 1) (.int .i64 0) (.slice (some ⟨gg, 0, none⟩) (p.l.length + 1) cap))
                      have ho8 : Hid (O3 _ gt (.int .i64 1) (.int .i64 0) (.slice (some ⟨gg, 0, none⟩) (p.l.length + 1) cap)) := Lib.hid (((ht4.set0 (.int .i64 1)).set1 (.int .i64 0)).set2 (.slice (some ⟨gg, 0, none⟩) (p.l.length + 1) cap))
                      generalize ((v4.setCell ⟨gt, 0, none⟩ (.int .i64 1)).setCell ⟨gt, 1, none⟩ (.int .i64 0)).setCell ⟨gt, 2, none⟩ (.slice (some ⟨gg, 0, none⟩) (p.l.length + 1) cap) = v9 at hq8 ho8 hb5 hHeld ⊢
                      have HB9 := Lib.hid hb5
                      have HEn9 : Hid (Calls Tryd.prog 14 #[.agg #[.int .i64 1, .int .i64 0, .slice (some ⟨gg, 0, none⟩) (p.l.length + 1) cap]] v9 (RetStrErr (encE ⟨1, 0, p.l ++ [y0]⟩) (vEn ⟨1, 0, p.l ++ [y0]⟩) v9)) := Lib.hid (by
                        have h9 := refEncode_any 1 0 (p.l ++ [y0]) (some ⟨gg, 0, none⟩) cap v9 hq8.out
                        rwa [HLm.out] at h9)
                      obtain ⟨u6, u0, u1, u2, u3, u4, u5⟩ := ho8.out
                      have HR9 : Hid (∀ W, Below v9.heap.size v9 W → W.cell? ⟨gt, 2, none⟩ = some (.slice (some ⟨gg, 0, none⟩) (p.l.length + 1) cap)) := Lib.hid (fun W hW => (ho8.out.below hW).c2)
                      clear hq8 ho8 hHeld hne t0 t1 t2 t3 t4 t5 tl hgtl
                      go_wp2_with fail
                      refine HEn9.out.mono ?_
                      rintro e va ⟨rfl, ba⟩
                      have HBa := Lib.hid (bon HB5.out (bon HB9.out ba))
                      have HOa := Lib.hid (ownsRow_below HO5'.out (bon HB9.out ba))
                      have hza : w3.heap.size ≤ va.heap.size := HBa.out.size
                      have x2 := HR9.out va ba
                      have HZs := Lib.hid (not_fits HFit.out)
                      have hfin : (p.l.length + 1 : Int) ≤ k → encE ⟨1, 0, p.l ++ [y0]⟩ = valE ⟨1, 0, p.l ++ [y0]⟩ → b < ((encE ⟨1, 0, p.l ++ [y0]⟩).length : Int) := fun h1 h2 => by
                        have h3 := HZs.out
                        rw [← h2, HLm.out] at h3
                        push_cast at h3
                        omega
                      clear ba u0 u1 u2 u3 u4 u5 u6
                      by_cases hv9 : vEn ⟨1, 0, p.l ++ [y0]⟩ = 0
                      · have hen : encE ⟨1, 0, p.l ++ [y0]⟩ = valE ⟨1, 0, p.l ++ [y0]⟩ := by unfold encE; rw [if_pos hv9]
                        rw [hv9]
                        have hfin2 := fun h1 => hfin h1 hen
                        clear hfin hv9 hen
                        generalize encE ⟨1, 0, p.l ++ [y0]⟩ = ev at hfin2 ⊢
                        by_cases hkk : (p.l.length + 1 : Int) ≤ k
                        · have hbb := hfin2 hkk
                          have hbb2 : ¬ (ev.length : Int) ≤ b := by omega
                          clear hfin2
                          go_wp2_with fail
                          go_roundw
                          case rel => exact ⟨m + 1 + 1, all ++ y.l, A6, c6, by go_num, by omega, by rw [hlen], HTk.out.symm, by omega, HOa.out, HBa.out, by omega⟩
                          case measure => simp [intOf]; omega
                        · by_cases hbb : (ev.length : Int) ≤ b
                          · clear hfin2
                            go_wp2_with fail
                            go_roundw
                            case rel => exact ⟨m + 1 + 1, all ++ y.l, A6, c6, by go_num, by omega, by rw [hlen], HTk.out.symm, by omega, HOa.out, HBa.out, by omega⟩
                            case measure => simp [intOf]; omega
                          · clear hfin2
                            go_wp2_with fail
                            go_roundw
                            case rel => exact ⟨m + 1 + 1, all ++ y.l, A6, c6, by go_num, by omega, by rw [hlen], HTk.out.symm, by omega, HOa.out, HBa.out, by omega⟩
                            case measure => simp [intOf]; omega
                      · generalize vEn ⟨1, 0, p.l ++ [y0]⟩ = v at hv9 ⊢
                        have hv1 : (v == 0) = false := by simpa using hv9
                        clear hfin hv9
                        generalize encE ⟨1, 0, p.l ++ [y0]⟩ = ev
                        go_wp2_with fail
                        go_roundw
                        case rel => exact ⟨m + 1 + 1, all ++ y.l, A6, c6, by go_num, by omega, by rw [hlen], HTk.out.symm, by omega, HOa.out, HBa.out, by omega⟩
                        case measure => simp [intOf]; omega
                    exact AllReadyH.nil
                  exact AllReadyH.nil
                exact AllReadyH.nil
              refine AllReadyH.cons (o := _) rfl (fun K hK => ?_) ?_
              · go_simp
                have hs := below_new v1 (.cells #[.int .i64 y0.client, .int .i64 y0.number, .string ⟨y0.op.toArray⟩] 42)
                have hnw := World.news_of_block (cs := #[.int .i64 y0.client, .int .i64 y0.number, .string ⟨y0.op.toArray⟩]) (t := 42) (fr := (0, 0)) (heap_alloc_new v1 (.cells #[.int .i64 y0.client, .int .i64 y0.number, .string ⟨y0.op.toArray⟩] 42))
                have hlw : v1.heap.size < (v1.alloc (.cells #[.int .i64 y0.client, .int .i64 y0.number, .string ⟨y0.op.toArray⟩] 42)).heap.size := by simp
                generalize v1.alloc (.cells #[.int .i64 y0.client, .int .i64 y0.number, .string ⟨y0.op.toArray⟩] 42) = v2 at hs hnw hlw ⊢
                have hb2 := bon hb1 hs
                have ht2 := ht1.below hs
                clear hs
                generalize v1.heap.size = gn at hnw hlw ⊢
                have hn2 := hnw
                have gn2 := hlw
                clear hnw hlw
                refine hK.out _ _ ?_ (fun hHeld => ?_)
                · exact HS.out _ hb2
                clear hK K
                try simp only [Act.put, List.setIfInBounds_toArray, List.set_cons_zero, List.set_cons_succ]
                refine wpAnyH_ready (rs := [6]) (by kernel_rfl) (by simp) ?_
                refine AllReadyH.cons (o := _) rfl (fun K hK => ?_) ?_
                · go_simp
                  go_at_call 23
                  refine (HCl.out _ hb2).mono ?_
                  rintro e v3 ⟨A5, c5, rfl, occ, hsep, hs⟩
                  go_wp2_with fail
                  have hb3 := bon hb2 hs
                  have gn3 := Nat.lt_of_lt_of_le gn2 (hs).size
                  have hn3 : ∀ i u, #[.int .i64 y0.client, .int .i64 y0.number, .string ⟨y0.op.toArray⟩].toList[i]? = some u → v3.cell? ((⟨gn, 0, none⟩ : Addr).add i) = some u := fun i u hu => by have h9 := hn2 i u hu; rw [add_off] at h9 ⊢; exact ((hs).cell (p := ⟨gn, 0 + i, none⟩) gn2).trans h9
                  have ht3 := ht2.below hs
                  have oc3 := occ
                  have hgt : some gt ≠ (Value.slice A5 p.l.length c5).ownBlock := fun h0 => by have h8 := hsep gt h0.symm; have h9 := ht2.lt; omega
                  clear hs hsep occ
                  refine hK.out _ _ ?_ (fun hHeld => ?_)
                  · exact HS.out _ hb3
                  clear hK K
                  try simp only [Act.put, List.setIfInBounds_toArray, List.set_cons_zero, List.set_cons_succ]
                  refine wpAnyH_ready (rs := [12]) (by kernel_rfl) (by simp) ?_
                  refine AllReadyH.cons (o := _) rfl (fun K hK => ?_) ?_
                  · refine step_append_lies _ (by rfl) _ _ _ (by rfl) w5.heap.size 42 i0 _ 3 32 Tryd.underlying22 HI.out HZ0.out HZ1.out HZ2.out rfl (by decide) _ _ _ (by rfl) oc3 _ 1 1 [.int .i64 y0.client, .int .i64 y0.number, .string ⟨y0.op.toArray⟩] (by rfl) (by rfl) hn3 (by simp [Value.oneCell']) Nat.one_pos hmx hby hb3.size _ rfl ?_
                    intro gg cap v4 hown hgrow hat hlt1
                    have hb4 := below_grown hb3 hb3.size hgrow (fun g hg => (oc3.lt g hg).1)
                    have own4 := hown
                    have ht4 := O3.grown ht3 hgrow hgt
                    have hne : gg ≠ gt := fun h0 => by
                      rcases hat with h9 | h9
                      · exact hgt (by rw [h9, h0])
                      · have h8 := ht3.lt; omega
                    clear hown hgrow hat hlt1
                    refine hK.out _ _ ?_ (fun hHeld => ?_)
                    · exact HS.out _ hb4
                    clear hK K
                    try simp only [Act.put, List.setIfInBounds_toArray]
                    refine wpAnyH_take (i := 13) (oi := _) (v := ?_) rfl (by kernel_rfl) (by kernel_rfl) (by kernel_rfl) (fun _ _ _ h => h) (Or.inl ⟨by rfl, ?_⟩) (by assumption) ?_
                    rotate_left
                    · intro w hSw; (try dsimp only at hSw); go_simp; try with_reducible rfl
                    try simp only [Act.put]
                    refine wpAnyH_ready (rs := [15]) (by kernel_rfl) (by simp) ?_
                    refine AllReadyH.cons (o := _) rfl (fun K hK => ?_) ?_
                    · have htk := ht4
                      obtain ⟨tl, t0, t1, t2, t3, t4, t5⟩ := htk
                      go_simp
                      have hb5 := ((hb4.setCell (p := ⟨gt, 0, none⟩) (by show w5.heap.size ≤ gt; exact hgtl) (.int .i64 1)).setCell (p := ⟨gt, 1, none⟩) (by show w5.heap.size ≤ gt; exact hgtl) (.int .i64 0)).setCell (p := ⟨gt, 2, none⟩) (by show w5.heap.size ≤ gt; exact hgtl) (.slice (some ⟨gg, 0, none⟩) (p.l.length + 1) cap)
                      refine hK.out _ _ ?_ (fun hHeld => ?_)
                      · exact HS.out _ hb5
                      clear hK K
                      try simp only [Act.put, List.setIfInBounds_toArray, List.set_cons_zero, List.set_cons_succ]
                      refine wpAnyH_done (by kernel_rfl) ?_ _
                      refine NoPanic.normal ?_
                      have hq8 : Hid (RqIn _ (some ⟨gg, 0, none⟩) cap (p.l ++ [y0])) := Lib.hid (rqIn_sets (own_in (l := p.l ++ [y0]) (by rw [HLm.out, List.flatMap_append]; exact own4) (by rw [HLm.out]; omega) (fun r hr => by
                        rcases List.mem_append.1 hr with h9 | h9
                        · have := HO2.out r (HPmem.out r h9); omega
                        · simp only [List.mem_cons, List.not_mem_nil, or_false] at h9
                          subst h9
                          have := HO2.out r (HYmem.out r (by rw [HYY.out]; simp)); omega)) (b := gt) (fun a ha => by simp only [Option.some.injEq] at ha; subst ha; exact hne) (.int .i64 1) (.int .i64 0) (.slice (some ⟨gg, 0, none⟩) (p.l.length + 1) cap))
                      have ho8 : Hid (O3 _ gt (.int .i64 1) (.int .i64 0) (.slice (some ⟨gg, 0, none⟩) (p.l.length + 1) cap)) := Lib.hid (((ht4.set0 (.int .i64 1)).set1 (.int .i64 0)).set2 (.slice (some ⟨gg, 0, none⟩) (p.l.length + 1) cap))
                      generalize ((v4.setCell ⟨gt, 0, none⟩ (.int .i64 1)).setCell ⟨gt, 1, none⟩ (.int .i64 0)).setCell ⟨gt, 2, none⟩ (.slice (some ⟨gg, 0, none⟩) (p.l.length + 1) cap) = v9 at hq8 ho8 hb5 hHeld ⊢
                      have HB9 := Lib.hid hb5
                      have HEn9 : Hid (Calls Tryd.prog 14 #[.agg #[.int .i64 1, .int .i64 0, .slice (some ⟨gg, 0, none⟩) (p.l.length + 1) cap]] v9 (RetStrErr (encE ⟨1, 0, p.l ++ [y0]⟩) (vEn ⟨1, 0, p.l ++ [y0]⟩) v9)) := Lib.hid (by
                        have h9 := refEncode_any 1 0 (p.l ++ [y0]) (some ⟨gg, 0, none⟩) cap v9 hq8.out
                        rwa [HLm.out] at h9)
                      obtain ⟨u6, u0, u1, u2, u3, u4, u5⟩ := ho8.out
                      have HR9 : Hid (∀ W, Below v9.heap.size v9 W → W.cell? ⟨gt, 2, none⟩ = some (.slice (some ⟨gg, 0, none⟩) (p.l.length + 1) cap)) := Lib.hid (fun W hW => (ho8.out.below hW).c2)
                      clear hq8 ho8 hHeld hne t0 t1 t2 t3 t4 t5 tl hgtl
                      go_wp2_with fail
                      refine HEn9.out.mono ?_
                      rintro e va ⟨rfl, ba⟩
                      have HBa := Lib.hid (bon HB5.out (bon HB9.out ba))
                      have HOa := Lib.hid (ownsRow_below HO5'.out (bon HB9.out ba))
                      have hza : w3.heap.size ≤ va.heap.size := HBa.out.size
                      have x2 := HR9.out va ba
                      have HZs := Lib.hid (not_fits HFit.out)
                      have hfin : (p.l.length + 1 : Int) ≤ k → encE ⟨1, 0, p.l ++ [y0]⟩ = valE ⟨1, 0, p.l ++ [y0]⟩ → b < ((encE ⟨1, 0, p.l ++ [y0]⟩).length : Int) := fun h1 h2 => by
                        have h3 := HZs.out
                        rw [← h2, HLm.out] at h3
                        push_cast at h3
                        omega
                      clear ba u0 u1 u2 u3 u4 u5 u6
                      by_cases hv9 : vEn ⟨1, 0, p.l ++ [y0]⟩ = 0
                      · have hen : encE ⟨1, 0, p.l ++ [y0]⟩ = valE ⟨1, 0, p.l ++ [y0]⟩ := by unfold encE; rw [if_pos hv9]
                        rw [hv9]
                        have hfin2 := fun h1 => hfin h1 hen
                        clear hfin hv9 hen
                        generalize encE ⟨1, 0, p.l ++ [y0]⟩ = ev at hfin2 ⊢
                        by_cases hkk : (p.l.length + 1 : Int) ≤ k
                        · have hbb := hfin2 hkk
                          have hbb2 : ¬ (ev.length : Int) ≤ b := by omega
                          clear hfin2
                          go_wp2_with fail
                          go_roundw
                          case rel => exact ⟨m + 1 + 1, all ++ y.l, A6, c6, by go_num, by omega, by rw [hlen], HTk.out.symm, by omega, HOa.out, HBa.out, by omega⟩
                          case measure => simp [intOf]; omega
                        · by_cases hbb : (ev.length : Int) ≤ b
                          · clear hfin2
                            go_wp2_with fail
                            go_roundw
                            case rel => exact ⟨m + 1 + 1, all ++ y.l, A6, c6, by go_num, by omega, by rw [hlen], HTk.out.symm, by omega, HOa.out, HBa.out, by omega⟩
                            case measure => simp [intOf]; omega
                          · clear hfin2
                            go_wp2_with fail
                            go_roundw
                            case rel => exact ⟨m + 1 + 1, all ++ y.l, A6, c6, by go_num, by omega, by rw [hlen], HTk.out.symm, by omega, HOa.out, HBa.out, by omega⟩
                            case measure => simp [intOf]; omega
                      · generalize vEn ⟨1, 0, p.l ++ [y0]⟩ = v at hv9 ⊢
                        have hv1 : (v == 0) = false := by simpa using hv9
                        clear hfin hv9
                        generalize encE ⟨1, 0, p.l ++ [y0]⟩ = ev
                        go_wp2_with fail
                        go_roundw
                        case rel => exact ⟨m + 1 + 1, all ++ y.l, A6, c6, by go_num, by omega, by rw [hlen], HTk.out.symm, by omega, HOa.out, HBa.out, by omega⟩
                        case measure => simp [intOf]; omega
                    exact AllReadyH.nil
                  exact AllReadyH.nil
                exact AllReadyH.nil
              exact AllReadyH.nil
            exact AllReadyH.nil
        · have hfl : all = l := by rw [HAll.out, List.take_of_length_le (by omega)]; exact HFl.out
          have HReq := Lib.hid (requestsEq_any A4 A c4 c all l wr (own_in HO.out (by omega) (fun r hr => by rw [hfl] at hr; exact HOp.out r hr)) (HQ.out.below (bon HB3.out HB.out)))
          have HFl2 := Lib.hid hfl
          clear hfl
          go_wp2_with fail
          refine HReq.out.mono ?_
          rintro e wz ⟨rfl, q, rfl⟩
          go_wp2_with fail
          go_ret
          exact ret_bl (by rw [HFl2.out]; simp) (bdN (bon HB3.out HB.out) q)
    · have hz2 : (batE l k b == 0) = false := by simpa using hz
      have hz3 : (batE l k b != 0) = true := by simpa using hz
      generalize batE l k b = v at hz hz2 hz3
      clear hz
      go_wp2_with fail
      go_ret
      exact ret_bl rfl HB3.out
end Go.Proofs.YthmoplkleopahaaDoor
