/- The contract of entry.Fresh. -/
import Derived.Test.YthmoplkleopahaaDoorEntN
import Derived.Laws.OwnMore
namespace Go.Proofs.YthmoplkleopahaaDoor
open Go.RowKit

section
variable {P : Program} {w : World}
theorem run_append_nil (base : Nat) (t ty e : TypeId) (i : TypeInfo) (size : Nat) (ht : P.underlying t = some (.slice e)) (hi : P.info? e = some i)
    (v : Value) (n : Nat) (xs : List Value) (hown : w.ownsRow base e size v n xs) (c : Nat) :
    (Builtin.append_ #[t, t] ty #[v, .slice none 0 c]).run P w = .ok v w := by
  rcases hown.2 with ⟨rfl, rfl⟩ | ⟨g, cap, cur, rfl, _, _, hnc, _⟩
  · simp [Builtin.append_, run_underlying ht, sizeOf, typeInfo, hi, Builtin.lenOf, Builtin.firstCells]
  · simp [Builtin.append_, run_underlying ht, sizeOf, typeInfo, hi, Builtin.lenOf, Builtin.firstCells, hnc, storeCells]
theorem wpList_append_nil {ops : Array Oper} {rest : List Oper} {o : Oper} {a : Act} {Q : Exit → Act → World → Prop} (hgd : o.guard = none) (s x : Operand) (t : TypeId)
    (ho : o.op = .call { callee := .builtin .append, args := #[s, x], argTypes := #[t, t] })
    (base : Nat) (e : TypeId) (i : TypeInfo) (size : Nat) (ht : P.underlying t = some (.slice e)) (hi : P.info? e = some i)
    (v : Value) (n : Nat) (xs : List Value) (hs : a.eval s = v) (hown : w.ownsRow base e size v n xs) (c : Nat) (hx : a.eval x = .slice none 0 c)
    (h : wpList P ops Q rest (a.put o.dst v) w) : wpList P ops Q (o :: rest) a w := by
  refine wpList_plain hgd fun K hK => ?_
  have hrun := run_append_nil (P := P) (w := w) base t o.type e i size ht hi v n xs hown c
  unfold Oper.wp
  simp [execOp, ho, resolve, invoke, builtin, hs, hx, hrun, Result.andThen]
  exact hK _ _ h
end
/-- what Fresh returns -/
def RetRqs (l : List Rq) (w : World) (e : Ending) (w' : World) : Prop := ∃ A c, e = .returned (.slice A l.length c) ∧ RqIn w' A c l ∧ Below w.heap.size w w'
theorem ret_rqs {l : List Rq} {w w' : World} {n c : Nat} {A : Option Addr} (hn : n = l.length) (h : RqIn w' A c l) (hb : Below w.heap.size w w') : RetRqs l w (.returned (.slice A n c)) w' := by
  subst hn; exact ⟨A, c, rfl, h, hb⟩
theorem seenV_snoc (l : List (List UInt8)) (x : List UInt8) : seenV (l ++ [x]) = seenV l ++ (match decE x with
  | none => []
  | some e => e.rs) := by simp only [seenV, List.flatMap_append, List.flatMap_cons, List.flatMap_nil, List.append_nil]; rfl
theorem seenV_none {l : List (List UInt8)} {x : List UInt8} (h : decE x = none) : seenV (l ++ [x]) = seenV l := by rw [seenV_snoc, h]; simp
theorem seenV_some {l : List (List UInt8)} {x : List UInt8} {e : En} (h : decE x = some e) : seenV (l ++ [x]) = seenV l ++ e.rs := by rw [seenV_snoc, h]
theorem dec_rs {s : List UInt8} {e : En} (h : decE s = some e) : e.rs.length ≤ 8 ∧ ∀ r ∈ e.rs, RqB r := by
  rcases vEn_kind e (decE_right h).1 with ⟨_, _, h8, hB⟩ | ⟨_, _, _, h0⟩ | ⟨_, _, h0⟩
  · exact ⟨h8, hB⟩
  · rw [h0]; simp
  · rw [h0]; simp
theorem fresh_skip {seen out l : List Rq} {k : Nat} (h : k < l.length) (hi : inB (seen ++ out) l[k] = true) : fresh seen out (l.drop k) = fresh seen out (l.drop (k + 1)) := by rw [fresh_left seen out l k h, if_pos hi]
theorem fresh_take {seen out l : List Rq} {k : Nat} (h : k < l.length) (hi : inB (seen ++ out) l[k] = false) : fresh seen out (l.drop k) = fresh seen (out ++ [l[k]]) (l.drop (k + 1)) := by rw [fresh_left seen out l k h, if_neg (by rw [hi]; decide)]
set_option maxRecDepth 100000 in
set_option maxHeartbeats 4000000 in
theorem fresh_any (A : Option Addr) (c : Nat) (l : List Rq) (B : Option Addr) (d : Nat) (vs : List (List UInt8)) (w : World) (he : Env w) (h : RqIn w A c l) (hn : l.length ≤ 1000) (hv : Rd w 1 B vs.length (strC vs)) (hvn : vs.length ≤ 1000) (hvs : ∀ x ∈ vs, x.length ≤ 2100) :
    Calls Tryd.prog 26 #[.slice A l.length c, .slice B vs.length d] w (RetRqs (fresh (seenV vs) [] l) w) := by
  have HE := Lib.hid he
  obtain ⟨res, hr0⟩ : ∃ res, res = fresh (seenV vs) [] l := ⟨_, rfl⟩
  rw [← hr0]
  have HR0 := Lib.hid hr0
  clear hr0
  have HQ := Lib.hid h
  have HV := Lib.hid hv
  have HVs := Lib.hid hvs
  have HOne := Lib.hid rqC_one
  obtain ⟨i0, hi, hz0, hz1, hz2⟩ := info_parts infoR
  have HI := Lib.hid hi
  have HZ0 := Lib.hid hz0
  have HZ1 := Lib.hid hz1
  have HZ2 := Lib.hid hz2
  clear hi hz0 hz1 hz2 he h hv hvs
  go_enter Tryd.func26, Tryd.ntmps26
  go_wp2_with fail
  go_loopw [5, 15] (fun o i wr => ∃ (j : Nat) (sn : List Rq) (A2 : Option Addr) (c2 : Nat), i = .int .i64 j ∧ j ≤ vs.length ∧ o = .slice A2 sn.length c2 ∧ wr.ownsRow w.heap.size 42 3 (.slice A2 sn.length c2) sn.length (sn.flatMap rqC) ∧ sn = seenV (vs.take j) ∧ sn.length ≤ 8 * j ∧ (∀ r ∈ sn, RqB r) ∧ Below w.heap.size w wr ∧ w.heap.size ≤ wr.heap.size) (fun _ i _ => vs.length - (intOf i).toNat)
  case atStart => exact ⟨0, [], none, 0, rfl, by omega, rfl, World.ownsRow_nil _ _ _ _, by simp [seenV], by simp, by simp, Below.refl _ _, Nat.le_refl _⟩
  case round =>
    obtain ⟨j, sn, A2, c2, rfl, hj, rfl, hown, hsn, h8, hB, hb, hge⟩ := hrel
    have HO := Lib.hid hown
    have HSn := Lib.hid hsn
    have HBs := Lib.hid hB
    have HB := Lib.hid hb
    clear hown hsn hB hb
    by_cases hlt : j < vs.length
    · have i0' : (0 : Int) ≤ (j : Int) := by omega
      have i1 : (j : Int) < (vs.length : Int) := by omega
      obtain ⟨g, o, rfl, hg, hcc⟩ := HV.out.cells (by simp [strC]; omega)
      have a0 : wr.cell? ⟨g, o + j, none⟩ = some (.string ⟨vs[j].toArray⟩) := (HB.out.cell (p := ⟨g, o + j, none⟩) hg).trans (hcc j _ (by simp [strC, hlt]))
      have hl := HVs.out vs[j] (List.getElem_mem hlt)
      have HT : Hid (vs.take (j + 1) = vs.take j ++ [vs[j]]) := Lib.hid (List.take_succ_eq_append_getElem hlt)
      clear hcc
      cases hd : decE vs[j] with
      | none =>
        have HD := Lib.hid (decode_none vs[j] wr (HE.out.below HB.out) hl hd)
        have HS2 : Hid (sn = seenV (vs.take (j + 1))) := Lib.hid (by rw [HT.out, seenV_none hd]; exact HSn.out)
        clear hd
        go_wp2_with fail
        refine HD.out.mono ?_
        rintro e w1 ⟨rfl, b1⟩
        have HB1 := Lib.hid (bon HB.out b1)
        have HO1 := Lib.hid ((ownsRow_below HO.out b1).alloc (.cells #[.int .i64 0, .int .i64 0, .slice none 0 0] 24))
        have hz1 := b1.size
        clear b1 a0
        go_wp2_with fail
        go_roundw
        case rel => exact ⟨j + 1, sn, A2, c2, by go_num, by omega, rfl, HO1.out, HS2.out, by omega, HBs.out, HB1.out.alloc (by omega) _, by simp; omega⟩
        case measure => simp [intOf]; omega
      | some x =>
        have HD := Lib.hid (decode_some vs[j] wr (HE.out.below HB.out) hl x hd)
        have HS2 : Hid (sn ++ x.rs = seenV (vs.take (j + 1))) := Lib.hid (by rw [HT.out, seenV_some hd, HSn.out])
        obtain ⟨hx8, hxB⟩ := dec_rs hd
        have HXB := Lib.hid hxB
        clear hd hxB
        obtain ⟨xk, xc, xr⟩ := x
        simp only [] at HD HS2 hx8 HXB
        go_wp2_with fail
        refine HD.out.mono ?_
        rintro e w1 ⟨A3, c3, ⟨rfl, q1⟩, b1⟩
        have HB1 := Lib.hid (bon HB.out b1)
        have HO1 := Lib.hid ((ownsRow_below HO.out b1).alloc (.cells #[.int .i64 xk, .int .i64 xc, .slice A3 xr.length c3] 24))
        have HQ1 := Lib.hid (q1.below (below_new w1 (.cells #[.int .i64 xk, .int .i64 xc, .slice A3 xr.length c3] 24)))
        have hz1 := b1.size
        have HXl := Lib.hid (flat_len rqC 3 rqC_len xr)
        clear b1 q1 a0
        cases A3 with
        | none =>
          have hl0 : xr.length = 0 := by
            by_cases hp : 0 < xr.length
            · obtain ⟨b, o, e, _⟩ := HQ1.out.rd.cells (by rw [flat_len rqC 3 rqC_len]; omega)
              simp at e
            · omega
          obtain rfl : xr = [] := List.eq_nil_of_length_eq_zero hl0
          have HS3 : Hid (sn = seenV (vs.take (j + 1))) := Lib.hid (by have h9 := HS2.out; rwa [List.append_nil] at h9)
          clear hl0
          simp only [List.length_nil]
          go_wp2_with (at_builtin; refine wpList_append_nil rfl _ _ 22 rfl w.heap.size 42 i0 3 Tryd.underlying22 HI.out _ _ _ rfl HO1.out c3 rfl ?_)
          go_wp2_with fail
          go_roundw
          case rel => exact ⟨j + 1, sn, A2, c2, by go_num, by omega, rfl, HO1.out, HS3.out, by omega, HBs.out, HB1.out.alloc (by omega) _, by simp; omega⟩
          case measure => simp [intOf]; omega
        | some a3 =>
          have HN : Hid (∀ (k : Nat) (u : Value), (xr.flatMap rqC)[k]? = some u → (w1.alloc (.cells #[.int .i64 xk, .int .i64 xc, .slice (some a3) xr.length c3] 24)).cell? (a3.add k) = some u) := Lib.hid (fun k u hu => by
            have hk : k < (xr.flatMap rqC).length := (List.getElem?_eq_some_iff.1 hu).1
            obtain ⟨b, o, e, hb, hc⟩ := HQ1.out.rd.cells (by omega)
            simp only [Option.some.injEq] at e
            subst e
            rw [add_plain']
            exact hc k u hu)
          go_wp2_with (at_builtin; refine wpList_append_own _ rfl _ _ 22 rfl w.heap.size 42 i0 _ 3 32 Tryd.underlying22 HI.out HZ0.out HZ1.out HZ2.out rfl (by decide) _ _ _ rfl HO1.out a3 xr.length c3 (xr.flatMap rqC) rfl HXl.out HN.out (HOne.out xr) (by simp [maxLen]; omega) (by omega) (by simp; omega) ?_)
          intro v' w2 hown' hgrow _
          obtain ⟨A4, c4, hv4⟩ := ownsRow_form hown'
          subst hv4
          have HO4 := Lib.hid hown'
          have HG4 := Lib.hid hgrow
          have HB4 := Lib.hid (below_grown (HB1.out.alloc (by omega) (.cells #[.int .i64 xk, .int .i64 xc, .slice (some a3) xr.length c3] 24)) (by simp; omega) hgrow (fun g hg => (HO1.out.lt g hg).1))
          have hlen : (sn ++ xr).length = sn.length + xr.length := by simp
          clear hown' hgrow
          go_wp2_with fail
          go_roundw
          case rel =>
            refine ⟨j + 1, sn ++ xr, A4, c4, by go_num, by omega, by rw [hlen], by rw [hlen, List.flatMap_append]; exact HO4.out, HS2.out, by omega, fun r hr => ?_, HB4.out, ?_⟩
            · rcases List.mem_append.1 hr with hr | hr
              · exact HBs.out r hr
              · exact HXB.out r hr
            · have := HG4.out.size; simp at this; omega
          case measure => simp [intOf]; omega
    · have HS2 : Hid (sn = seenV vs) := Lib.hid (by rw [HSn.out, List.take_of_length_le (by omega)])
      have HBn := HB.out
      have HSr := Lib.hid (Rd.own HO.out)
      have HX : Hid (res = fresh sn [] (l.drop 0)) := Lib.hid (by rw [HR0.out, HS2.out, List.drop_zero])
      have HQ1 := Lib.hid (HQ.out.below HB.out)
      have hsl : sn.length ≤ 8000 := by omega
      clear HSn HS2 HO HBs HV HVs HE
      generalize wr = wm at *
      go_wp2_with fail
      clear hj hlt h8
      go_loopw [6, 33] (fun o i wr => ∃ (k : Nat) (out : List Rq) (A3 : Option Addr) (c3 : Nat), i = .int .i64 k ∧ k ≤ l.length ∧ out.length ≤ k ∧ o = .slice A3 out.length c3 ∧ wr.ownsRow wm.heap.size 42 3 (.slice A3 out.length c3) out.length (out.flatMap rqC) ∧ res = fresh sn out (l.drop k) ∧ (∀ r ∈ out, r ∈ l) ∧ Below wm.heap.size wm wr ∧ wm.heap.size ≤ wr.heap.size) (fun _ i _ => l.length - (intOf i).toNat)
      case atStart => exact ⟨0, [], none, 0, rfl, by omega, by simp, rfl, World.ownsRow_nil _ _ _ _, HX.out, by simp, Below.refl _ _, Nat.le_refl _⟩
      case round =>
        obtain ⟨k, out, A3, c3, rfl, hk, hol, rfl, hown, hres, hmem, hb, hge2⟩ := hrel
        have HO := Lib.hid hown
        have HRes := Lib.hid hres
        have HMem := Lib.hid hmem
        have HB := Lib.hid hb
        clear hown hres hmem hb
        by_cases hlt : k < l.length
        · have i0' : (0 : Int) ≤ (k : Int) := by omega
          have i1 : (k : Int) < (l.length : Int) := by omega
          obtain ⟨g, o, rfl, hg, hcc⟩ := HQ1.out.rd.at rqC_len (by omega) hlt
          have a0 := hcc wr HB.out 0 _ rfl
          have a1 := hcc wr HB.out 1 _ rfl
          have a2 := hcc wr HB.out 2 _ rfl
          simp only [Nat.add_zero] at a0
          have HBX : Hid (Below wr.heap.size wr (wr.alloc (.cells #[.int .i64 l[k].client, .int .i64 l[k].number, .string ⟨l[k].op.toArray⟩] 42))) := Lib.hid (below_new wr _)
          have HX0 : Hid (Bx wr (rqC l[k]) 42 (wr.alloc (.cells #[.int .i64 l[k].client, .int .i64 l[k].number, .string ⟨l[k].op.toArray⟩] 42))) := Lib.hid (bx_new wr (rqC l[k]) 42)
          have HC : Hid (∀ w1, Bx wr (rqC l[k]) 42 w1 → w1.cell? ⟨wr.heap.size, 0, none⟩ = some (.int .i64 l[k].client) ∧ w1.cell? ⟨wr.heap.size, 1, none⟩ = some (.int .i64 l[k].number) ∧ w1.cell? ⟨wr.heap.size, 2, none⟩ = some (.string ⟨l[k].op.toArray⟩)) :=
            Lib.hid (fun w1 hb => ⟨bx_cell hb 0 _ rfl, bx_cell hb 1 _ rfl, bx_cell hb 2 _ rfl⟩)
          have HIs : Hid (∀ W, Bx wr (rqC l[k]) 42 W → Calls Tryd.prog 43 #[.slice A2 sn.length c2, .agg #[.int .i64 l[k].client, .int .i64 l[k].number, .string ⟨l[k].op.toArray⟩]] W fun e w' => e = .returned (.bool (inB sn l[k])) ∧ Bx wr (rqC l[k]) 42 w') := Lib.hid (fun W hW => (in_any A2 c2 sn l[k] W (HSr.out.below (bon HB.out (bx_low hW))) (by omega)).mono fun _ _ ⟨a, b⟩ => ⟨a, bx_on hW b⟩)
          have HIo : Hid (∀ W, Bx wr (rqC l[k]) 42 W → Calls Tryd.prog 43 #[.slice A3 out.length c3, .agg #[.int .i64 l[k].client, .int .i64 l[k].number, .string ⟨l[k].op.toArray⟩]] W fun e w' => e = .returned (.bool (inB out l[k])) ∧ Bx wr (rqC l[k]) 42 w') := Lib.hid (fun W hW => (in_any A3 c3 out l[k] W ((Rd.own HO.out).below (bx_low hW)) (by omega)).mono fun _ _ ⟨a, b⟩ => ⟨a, bx_on hW b⟩)
          clear hcc
          go_wp2_with fail
          refine (HIs.out _ HX0.out).mono ?_
          rintro e w1 ⟨rfl, b1⟩
          have HX1 := Lib.hid b1
          have hs1 := bx_size b1
          clear b1 a0 a1 a2
          obtain ⟨d0, d1, d2⟩ := HC.out _ HX1.out
          cases hs : inB sn l[k] with
          | true =>
            have HY : Hid (res = fresh sn out (l.drop (k + 1))) := Lib.hid (by rw [HRes.out]; exact fresh_skip hlt (by rw [inB_app, hs]; simp))
            go_wp2_with fail
            go_roundw
            case rel => exact ⟨k + 1, out, A3, c3, by go_num, by omega, by omega, rfl, ownsRow_below HO.out (bx_low HX1.out), HY.out, HMem.out, bon HB.out (bx_low HX1.out), by omega⟩
            case measure => simp [intOf]; omega
          | false =>
            go_wp2_with fail
            refine (HIo.out _ HX1.out).mono ?_
            rintro e w2 ⟨rfl, b2⟩
            have HX2 := Lib.hid b2
            have hs2 := bx_size b2
            clear b2 d0 d1 d2
            obtain ⟨d0, d1, d2⟩ := HC.out _ HX2.out
            cases ho : inB out l[k] with
            | true =>
              have HY : Hid (res = fresh sn out (l.drop (k + 1))) := Lib.hid (by rw [HRes.out]; exact fresh_skip hlt (by rw [inB_app, ho]; simp))
              go_wp2_with fail
              go_roundw
              case rel => exact ⟨k + 1, out, A3, c3, by go_num, by omega, by omega, rfl, ownsRow_below HO.out (bx_low HX2.out), HY.out, HMem.out, bon HB.out (bx_low HX2.out), by omega⟩
              case measure => simp [intOf]; omega
            | false =>
              have HY : Hid (res = fresh sn (out ++ [l[k]]) (l.drop (k + 1))) := Lib.hid (by rw [HRes.out]; exact fresh_take hlt (by rw [inB_app, hs, ho]; rfl))
              have HO2 := Lib.hid (ownsRow_below HO.out (bx_low HX2.out))
              go_wp2_with (at_builtin; refine wpList_append_own _ rfl _ _ 22 rfl wm.heap.size 42 i0 _ 3 32 Tryd.underlying22 HI.out HZ0.out HZ1.out HZ2.out rfl (by decide) _ _ _ rfl (HO2.out.alloc _) ⟨w2.heap.size, 0, none⟩ 1 1 (rqC l[k]) rfl rfl (cell_new _ _ _ _ rfl) (by simp [rqC, Value.oneCell']) (by simp [maxLen]; omega) (by omega) (by simp; omega) ?_)
              intro v' w3 hown' hgrow _
              obtain ⟨A4, c4, hv4⟩ := ownsRow_form hown'
              subst hv4
              have HO4 := Lib.hid hown'
              have HG4 := Lib.hid hgrow
              have HB4 := Lib.hid (below_grown ((bon HB.out (bx_low HX2.out)).alloc (by omega) (.cells (rqC l[k]).toArray 42)) (by simp; omega) hgrow (fun g hg => (HO2.out.lt g hg).1))
              have hlen : (out ++ [l[k]]).length = out.length + 1 := by simp
              clear hown' hgrow d0 d1 d2
              go_wp2_with fail
              go_roundw
              case rel =>
                refine ⟨k + 1, out ++ [l[k]], A4, c4, by go_num, by omega, by omega, by rw [hlen], by rw [hlen, List.flatMap_append]; simpa using HO4.out, HY.out, fun r hr => ?_, HB4.out, ?_⟩
                · rcases List.mem_append.1 hr with hr | hr
                  · exact HMem.out r hr
                  · simp only [List.mem_cons, List.not_mem_nil, or_false] at hr
                    subst hr; exact List.getElem_mem hlt
                · have := HG4.out.size; simp at this; omega
              case measure => simp [intOf]; omega
        · have HY : Hid (res = out) := Lib.hid (by rw [HRes.out, List.drop_eq_nil_of_le (by omega), fresh])
          have HIn : Hid (RqIn wr A3 c3 out) := Lib.hid (own_in HO.out (by omega) (fun r hr => HQ.out.op r (HMem.out r hr)))
          clear hk
          go_wp2_with fail
          go_ret
          exact ret_rqs (by rw [HY.out]) (by rw [HY.out]; exact HIn.out) (bon HBn HB.out)
end Go.Proofs.YthmoplkleopahaaDoor
