/- The contract of the reference's Fresh. -/
import Derived.Test.YthmoplkleopahaaDoorRefK
import Derived.Test.YthmoplkleopahaaDoorEntO
namespace Go.Proofs.YthmoplkleopahaaDoor
open Go.RowKit

theorem refDecode_any (s : List UInt8) (w : World) (hs : s.length ≤ 1048576) : Calls Tryd.prog 19 #[.string ⟨s.toArray⟩] w (RetDec (decE s) w) := by
  cases hg : refStrs s with
  | none => exact refDecode_bad s w hs hg
  | some l =>
    cases l with
    | nil => exact refDecode_nil s w hs hg
    | cons h t =>
      by_cases h1 : h = wFinish
      · subst h1; exact refDecode_finish s t w hs hg
      · by_cases h2 : h = wJoin ∧ t.length = 1
        · obtain ⟨rfl, h2⟩ := h2
          match t, h2 with
          | [x], _ => exact refDecode_join s x w hs hg
        · by_cases h3 : h = wBatch ∧ t.length % 3 = 0
          · obtain ⟨rfl, h3⟩ := h3
            exact refDecode_batch s t w hs hg h3
          · exact refDecode_other s h t w hs hg h1 h2 h3
theorem refDecode_some (s : List UInt8) (w : World) (hs : s.length ≤ 1048576) (x : En) (h : decE s = some x) :
    Calls Tryd.prog 19 #[.string ⟨s.toArray⟩] w fun e w' => ∃ A c, (e = .returned (.tuple #[.agg #[.int .i64 x.kind, .int .i64 x.cfg, .slice A x.rs.length c], .int .i64 0]) ∧ RqIn w' A c x.rs) ∧ Below w.heap.size w w' :=
  (refDecode_any s w hs).mono fun e w' hd => by
    unfold RetDec at hd
    rw [h] at hd
    obtain ⟨hb, A, c, h1, h2⟩ := hd
    exact ⟨A, c, ⟨h1, h2⟩, hb⟩
theorem refDecode_none (s : List UInt8) (w : World) (hs : s.length ≤ 1048576) (h : decE s = none) :
    Calls Tryd.prog 19 #[.string ⟨s.toArray⟩] w fun e w' => e = .returned (.tuple #[.agg #[.int .i64 0, .int .i64 0, .slice none 0 0], .int .i64 2]) ∧ Below w.heap.size w w' :=
  (refDecode_any s w hs).mono fun e w' hd => by
    unfold RetDec at hd
    rw [h] at hd
    exact ⟨hd.2, hd.1⟩
set_option maxRecDepth 100000 in
set_option maxHeartbeats 4000000 in
theorem refFresh_any (A : Option Addr) (c : Nat) (l : List Rq) (B : Option Addr) (d : Nat) (vs : List (List UInt8)) (w : World) (h : RqIn w A c l) (hn : l.length ≤ 1000) (hv : Rd w 1 B vs.length (strC vs)) (hvn : vs.length ≤ 1000) (hvs : ∀ x ∈ vs, x.length ≤ 2100) :
    Calls Tryd.prog 28 #[.slice A l.length c, .slice B vs.length d] w (RetRqs (fresh (seenV vs) [] l) w) := by
  obtain ⟨res, hr0⟩ : ∃ res, res = fresh (seenV vs) [] l := ⟨_, rfl⟩
  rw [← hr0]
  have HR0 := Lib.hid hr0
  clear hr0
  have HQ := Lib.hid h
  have HV := Lib.hid hv
  have HVs := Lib.hid hvs
  have HOne := Lib.hid rqC_one
  obtain ⟨i0, hi, hz0, hz1, hz2⟩ := info_parts infoR
  have HI := Lib.hid hi
  have HZ0 := Lib.hid hz0
  have HZ1 := Lib.hid hz1
  have HZ2 := Lib.hid hz2
  clear hi hz0 hz1 hz2 h hv hvs
  go_enter Tryd.func28, Tryd.ntmps28
  go_wp2_with fail
  go_loopw [5, 7] (fun o i wr => ∃ (j : Nat) (sn : List Rq) (A2 : Option Addr) (c2 : Nat), i = .int .i64 j ∧ j ≤ vs.length ∧ o = .slice A2 sn.length c2 ∧ wr.ownsRow w.heap.size 42 3 (.slice A2 sn.length c2) sn.length (sn.flatMap rqC) ∧ sn = seenV (vs.take j) ∧ sn.length ≤ 8 * j ∧ (∀ r ∈ sn, RqB r) ∧ Below w.heap.size w wr ∧ w.heap.size ≤ wr.heap.size) (fun _ i _ => vs.length - (intOf i).toNat)
  case atStart => exact ⟨0, [], none, 0, rfl, by omega, rfl, World.ownsRow_nil _ _ _ _, by simp [seenV], by simp, by simp, Below.refl _ _, Nat.le_refl _⟩
  case round =>
    obtain ⟨j, sn, A2, c2, rfl, hj, rfl, hown, hsn, h8, hB, hb, hge⟩ := hrel
    have HO := Lib.hid hown
    have HSn := Lib.hid hsn
    have HBs := Lib.hid hB
    have HB := Lib.hid hb
    clear hown hsn hB hb
    by_cases hlt : j < vs.length
    · have i0' : (0 : Int) ≤ (j : Int) := by omega
      have i1 : (j : Int) < (vs.length : Int) := by omega
      obtain ⟨g, o, rfl, hg, hcc⟩ := HV.out.cells (by simp [strC]; omega)
      have a0 : wr.cell? ⟨g, o + j, none⟩ = some (.string ⟨vs[j].toArray⟩) := (HB.out.cell (p := ⟨g, o + j, none⟩) hg).trans (hcc j _ (by simp [strC, hlt]))
      have hl := HVs.out vs[j] (List.getElem_mem hlt)
      have HT : Hid (vs.take (j + 1) = vs.take j ++ [vs[j]]) := Lib.hid (List.take_succ_eq_append_getElem hlt)
      clear hcc
      cases hd : decE vs[j] with
      | none =>
        have HD := Lib.hid (refDecode_none vs[j] wr (by omega) hd)
        have HS2 : Hid (sn = seenV (vs.take (j + 1))) := Lib.hid (by rw [HT.out, seenV_none hd]; exact HSn.out)
        clear hd
        go_wp2_with fail
        refine HD.out.mono ?_
        rintro e w1 ⟨rfl, b1⟩
        have HB1 := Lib.hid (bon HB.out b1)
        have HO1 := Lib.hid ((ownsRow_below HO.out b1).alloc (.cells #[.int .i64 0, .int .i64 0, .slice none 0 0] 24))
        have hz1 := b1.size
        clear b1 a0
        go_wp2_with (at_builtin; refine wpList_append_nil rfl _ _ 22 rfl w.heap.size 42 i0 3 Tryd.underlying22 HI.out _ _ _ rfl HO1.out 0 rfl ?_)
        go_wp2_with fail
        go_roundw
        case rel => exact ⟨j + 1, sn, A2, c2, by go_num, by omega, rfl, HO1.out, HS2.out, by omega, HBs.out, HB1.out.alloc (by omega) _, by simp; omega⟩
        case measure => simp [intOf]; omega
      | some x =>
        have HD := Lib.hid (refDecode_some vs[j] wr (by omega) x hd)
        have HS2 : Hid (sn ++ x.rs = seenV (vs.take (j + 1))) := Lib.hid (by rw [HT.out, seenV_some hd, HSn.out])
        obtain ⟨hx8, hxB⟩ := dec_rs hd
        have HXB := Lib.hid hxB
        clear hd hxB
        obtain ⟨xk, xc, xr⟩ := x
        simp only [] at HD HS2 hx8 HXB
        go_wp2_with fail
        refine HD.out.mono ?_
        rintro e w1 ⟨A3, c3, ⟨rfl, q1⟩, b1⟩
        have HB1 := Lib.hid (bon HB.out b1)
        have HO1 := Lib.hid ((ownsRow_below HO.out b1).alloc (.cells #[.int .i64 xk, .int .i64 xc, .slice A3 xr.length c3] 24))
        have HQ1 := Lib.hid (q1.below (below_new w1 (.cells #[.int .i64 xk, .int .i64 xc, .slice A3 xr.length c3] 24)))
        have hz1 := b1.size
        have HXl := Lib.hid (flat_len rqC 3 rqC_len xr)
        clear b1 q1 a0
        cases A3 with
        | none =>
          have hl0 : xr.length = 0 := by
            by_cases hp : 0 < xr.length
            · obtain ⟨b, o, e, _⟩ := HQ1.out.rd.cells (by rw [flat_len rqC 3 rqC_len]; omega)
              simp at e
            · omega
          obtain rfl : xr = [] := List.eq_nil_of_length_eq_zero hl0
          have HS3 : Hid (sn = seenV (vs.take (j + 1))) := Lib.hid (by have h9 := HS2.out; rwa [List.append_nil] at h9)
          clear hl0
          simp only [List.length_nil]
          go_wp2_with (at_builtin; refine wpList_append_nil rfl _ _ 22 rfl w.heap.size 42 i0 3 Tryd.underlying22 HI.out _ _ _ rfl HO1.out c3 rfl ?_)
          go_wp2_with fail
          go_roundw
          case rel => exact ⟨j + 1, sn, A2, c2, by go_num, by omega, rfl, HO1.out, HS3.out, by omega, HBs.out, HB1.out.alloc (by omega) _, by simp; omega⟩
          case measure => simp [intOf]; omega
        | some a3 =>
          have HN : Hid (∀ (k : Nat) (u : Value), (xr.flatMap rqC)[k]? = some u → (w1.alloc (.cells #[.int .i64 xk, .int .i64 xc, .slice (some a3) xr.length c3] 24)).cell? (a3.add k) = some u) := Lib.hid (fun k u hu => by
            have hk : k < (xr.flatMap rqC).length := (List.getElem?_eq_some_iff.1 hu).1
            obtain ⟨b, o, e, hb, hc⟩ := HQ1.out.rd.cells (by omega)
            simp only [Option.some.injEq] at e
            subst e
            rw [add_plain']
            exact hc k u hu)
          go_wp2_with (at_builtin; refine wpList_append_own _ rfl _ _ 22 rfl w.heap.size 42 i0 _ 3 32 Tryd.underlying22 HI.out HZ0.out HZ1.out HZ2.out rfl (by decide) _ _ _ rfl HO1.out a3 xr.length c3 (xr.flatMap rqC) rfl HXl.out HN.out (HOne.out xr) (by simp [maxLen]; omega) (by omega) (by simp; omega) ?_)
          intro v' w2 hown' hgrow _
          obtain ⟨A4, c4, hv4⟩ := ownsRow_form hown'
          subst hv4
          have HO4 := Lib.hid hown'
          have HG4 := Lib.hid hgrow
          have HB4 := Lib.hid (below_grown (HB1.out.alloc (by omega) (.cells #[.int .i64 xk, .int .i64 xc, .slice (some a3) xr.length c3] 24)) (by simp; omega) hgrow (fun g hg => (HO1.out.lt g hg).1))
          have hlen : (sn ++ xr).length = sn.length + xr.length := by simp
          clear hown' hgrow
          go_wp2_with fail
          go_roundw
          case rel =>
            refine ⟨j + 1, sn ++ xr, A4, c4, by go_num, by omega, by rw [hlen], by rw [hlen, List.flatMap_append]; exact HO4.out, HS2.out, by omega, fun r hr => ?_, HB4.out, ?_⟩
            · rcases List.mem_append.1 hr with hr | hr
              · exact HBs.out r hr
              · exact HXB.out r hr
            · have := HG4.out.size; simp at this; omega
          case measure => simp [intOf]; omega
    · have HS2 : Hid (sn = seenV vs) := Lib.hid (by rw [HSn.out, List.take_of_length_le (by omega)])
      have HX : Hid (res = fresh sn [] (l.drop 0)) := Lib.hid (by rw [HR0.out, HS2.out, List.drop_zero])
      have hsl : sn.length ≤ 8000 := by omega
      clear HSn HS2 HBs HV HVs
      go_wp2_with fail
      clear hj hlt h8
      go_loopw [5, 6, 10] (fun os o i wr => ∃ (k : Nat) (s2 out : List Rq) (A2 A3 : Option Addr) (c2 c3 : Nat), i = .int .i64 k ∧ s2 = sn ++ out ∧ k ≤ l.length ∧ out.length ≤ k ∧ os = .slice A2 s2.length c2 ∧ o = .slice A3 out.length c3 ∧ wr.ownsRow w.heap.size 42 3 (.slice A2 s2.length c2) s2.length (s2.flatMap rqC) ∧ wr.ownsRow w.heap.size 42 3 (.slice A3 out.length c3) out.length (out.flatMap rqC) ∧
        (∀ g, (Value.slice A2 s2.length c2).ownBlock = some g → (Value.slice A3 out.length c3).ownBlock ≠ some g) ∧ res = fresh sn out (l.drop k) ∧ (∀ r ∈ out, r ∈ l) ∧ Below w.heap.size w wr ∧ w.heap.size ≤ wr.heap.size) (fun _ _ i _ => l.length - (intOf i).toNat)
      case atStart => exact ⟨0, sn, [], A2, none, c2, 0, rfl, by simp, by omega, by simp, rfl, rfl, HO.out, World.ownsRow_nil _ _ _ _, by simp [Value.ownBlock], HX.out, by simp, HB.out, hge⟩
      case round =>
        clear HO HB hge
        obtain ⟨k, s2, out, A2, A3, c2, c3, rfl, hs2, hk, hol, rfl, rfl, howns, hown, hap, hres, hmem, hb, hge⟩ := hrel
        have HS := Lib.hid howns
        have HO := Lib.hid hown
        have HAp := Lib.hid hap
        have HRes := Lib.hid hres
        have HMem := Lib.hid hmem
        have HB := Lib.hid hb
        have hsl2 : s2.length = sn.length + out.length := by rw [hs2]; simp
        have HS2 := Lib.hid hs2
        have hs2l : s2.length ≤ 9000 := by omega
        clear hs2 hsl2
        clear howns hown hap hres hmem hb
        by_cases hlt : k < l.length
        · have i0' : (0 : Int) ≤ (k : Int) := by omega
          have i1 : (k : Int) < (l.length : Int) := by omega
          obtain ⟨g, o, rfl, hg, hcc⟩ := HQ.out.rd.at rqC_len (by omega) hlt
          have HCC := Lib.hid hcc
          have a0 := hcc wr HB.out 0 _ rfl
          have a1 := hcc wr HB.out 1 _ rfl
          have a2 := hcc wr HB.out 2 _ rfl
          simp only [Nat.add_zero] at a0
          clear hcc
          have HIn := Lib.hid (refIn_any A2 c2 s2 l[k] wr (Rd.own HS.out) (by omega))
          cases hs : inB s2 l[k] with
          | true =>
            have HY : Hid (res = fresh sn out (l.drop (k + 1))) := Lib.hid (by rw [HRes.out]; exact fresh_skip hlt (by rw [← HS2.out]; exact hs))
            rw [hs] at HIn
            go_wp2_with fail
            refine HIn.out.mono ?_
            rintro e w1 ⟨rfl, b1⟩
            have hs1 := b1.size
            go_wp2_with fail
            go_roundw
            case rel => exact ⟨k + 1, s2, out, A2, A3, c2, c3, by go_num, HS2.out, by omega, by omega, rfl, rfl, ownsRow_below HS.out b1, ownsRow_below HO.out b1, HAp.out, HY.out, HMem.out, bon HB.out b1, by omega⟩
            case measure => simp [intOf]; omega
          | false =>
            have HY : Hid (res = fresh sn (out ++ [l[k]]) (l.drop (k + 1))) := Lib.hid (by rw [HRes.out]; exact fresh_take hlt (by rw [← HS2.out]; exact hs))
            rw [hs] at HIn
            go_wp2_with fail
            refine HIn.out.mono ?_
            rintro e w1 ⟨rfl, b1⟩
            have HB1 := Lib.hid (bon HB.out b1)
            have HS1 := Lib.hid (ownsRow_below HS.out b1)
            have HO1 := Lib.hid (ownsRow_below HO.out b1)
            have hs1 := b1.size
            have c0 := HCC.out w1 HB1.out 0 _ rfl
            have c1 := HCC.out w1 HB1.out 1 _ rfl
            have c2' := HCC.out w1 HB1.out 2 _ rfl
            simp only [Nat.add_zero] at c0
            have hap1 : (Value.slice A3 out.length c3).ownBlock = none ∨ (Value.slice A3 out.length c3).ownBlock ≠ (Value.slice A2 s2.length c2).ownBlock := by
              cases hq : (Value.slice A2 s2.length c2).ownBlock with
              | none => 
                cases hr : (Value.slice A3 out.length c3).ownBlock with
                | none => exact .inl rfl
                | some r => exact .inr (by simp)
              | some q => exact .inr (HAp.out q hq)
            clear b1 a0 a1 a2
            go_wp2_with (at_builtin; refine wpList_append_lies _ rfl _ _ 22 rfl w.heap.size 42 i0 _ 3 32 Tryd.underlying22 HI.out HZ0.out HZ1.out HZ2.out rfl (by decide) _ _ _ rfl (HS1.out.alloc _) ⟨w1.heap.size, 0, none⟩ 1 1 (rqC l[k]) rfl rfl (cell_new _ _ _ _ rfl) (by simp [rqC, Value.oneCell']) (by omega) (by simp [maxLen]; omega) (by omega) (by simp; omega) _ rfl ?_)
            intro gs cs w3 hown3 hgrow3 hat3 hlt3
            have hO3 := World.ownsRow.kept (HO1.out.alloc (.cells (rqC l[k]).toArray 42)) hgrow3 hap1
            have hap3 : (Value.slice A3 out.length c3).ownBlock ≠ some gs := by
              rcases hat3 with h9 | h9
              · exact HAp.out gs h9
              · intro h8
                have := (HO1.out.lt gs h8).2
                (try simp at h9)
                omega
            have HB3 := Lib.hid (below_grown (HB1.out.alloc (by omega) (.cells (rqC l[k]).toArray 42)) (by simp; omega) hgrow3 (fun g hg => (HS1.out.lt g hg).1))
            have hz3 : w1.heap.size + 1 ≤ w3.heap.size := by have := hgrow3.size; simpa using this
            have HS3 := Lib.hid hown3
            have HO3 := Lib.hid hO3
            have HAp3 := Lib.hid hap3
            clear hown3 hgrow3 hat3 hO3 hap3 c0 c1 c2'
            have c0 := HCC.out w3 HB3.out 0 _ rfl
            have c1 := HCC.out w3 HB3.out 1 _ rfl
            have c2' := HCC.out w3 HB3.out 2 _ rfl
            simp only [Nat.add_zero] at c0
            go_wp2_with (at_builtin; refine wpList_append_lies _ rfl _ _ 22 rfl w.heap.size 42 i0 _ 3 32 Tryd.underlying22 HI.out HZ0.out HZ1.out HZ2.out rfl (by decide) _ _ _ rfl (HO3.out.alloc _) ⟨w3.heap.size, 0, none⟩ 1 1 (rqC l[k]) rfl rfl (cell_new _ _ _ _ rfl) (by simp [rqC, Value.oneCell']) (by omega) (by simp [maxLen]; omega) (by omega) (by simp; omega) _ rfl ?_)
            intro go co w4 hown4 hgrow4 hat4 hlt4
            have hS4 := World.ownsRow.kept (HS3.out.alloc (.cells (rqC l[k]).toArray 42)) hgrow4 (.inr (by intro h8; exact HAp3.out h8.symm))
            have hap4 : some go ≠ some gs := by
              rcases hat4 with h9 | h9
              · rw [← h9]; exact HAp3.out
              · intro h8
                simp only [Option.some.injEq] at h8
                have := (HS3.out.lt gs rfl).2
                (try simp at h9)
                omega
            have HB4 := Lib.hid (below_grown (HB3.out.alloc (by omega) (.cells (rqC l[k]).toArray 42)) (by simp; omega) hgrow4 (fun g hg => (HO3.out.lt g hg).1))
            have hz4 : w3.heap.size + 1 ≤ w4.heap.size := by have := hgrow4.size; simpa using this
            have HO4 := Lib.hid hown4
            have HS4 := Lib.hid hS4
            have hlen : (out ++ [l[k]]).length = out.length + 1 := by simp
            have hlen2 : (s2 ++ [l[k]]).length = s2.length + 1 := by simp
            clear hown4 hgrow4 hat4 hS4 c0 c1 c2'
            go_wp2_with fail
            go_roundw
            case rel =>
              refine ⟨k + 1, s2 ++ [l[k]], out ++ [l[k]], some ⟨gs, 0, none⟩, some ⟨go, 0, none⟩, cs, co, by go_num, by rw [HS2.out, List.append_assoc], by omega, by omega, by rw [hlen2], by rw [hlen], by rw [hlen2, List.flatMap_append]; simpa using HS4.out, by rw [hlen, List.flatMap_append]; simpa using HO4.out, ?_, HY.out, fun r hr => ?_, HB4.out, by omega⟩
              · intro q hq
                simp only [Value.ownBlock, Option.some.injEq] at hq ⊢
                subst hq
                simpa using hap4
              · rcases List.mem_append.1 hr with hr | hr
                · exact HMem.out r hr
                · simp only [List.mem_cons, List.not_mem_nil, or_false] at hr
                  subst hr; exact List.getElem_mem hlt
            case measure => simp [intOf]; omega
        · have HY : Hid (res = out) := Lib.hid (by rw [HRes.out, List.drop_eq_nil_of_le (by omega), fresh])
          have HIn : Hid (RqIn wr A3 c3 out) := Lib.hid (own_in HO.out (by omega) (fun r hr => HQ.out.op r (HMem.out r hr)))
          clear hk
          go_wp2_with fail
          go_ret
          exact ret_rqs (by rw [HY.out]) (by rw [HY.out]; exact HIn.out) HB.out
end Go.Proofs.YthmoplkleopahaaDoor
