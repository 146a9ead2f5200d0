/- The examples of the chapter. -/
import Derived.Test.YthmoplkleopahaaDoorRefG
import Derived.Test.YthmoplkleopahaaDoorEntN
namespace Go.Proofs.YthmoplkleopahaaDoor
open Go.RowKit

def exR0 : Rq := ⟨0, 3, [112, 117, 116, 32, 97, 32, 120]⟩
def exR1 : Rq := ⟨2, 1, [99, 111, 117, 110, 116]⟩
def exR2 : Rq := ⟨1, 1, [103, 101, 116, 32, 97]⟩
def exE : En := ⟨1, 0, [exR0, exR1]⟩
theorem ex_valid : vEn exE = 0 := by decide +kernel
theorem ex_batE : batE [exR0, exR1, exR2] 2 500 = 0 := by decide +kernel
theorem ex_batL : batL [exR0, exR1, exR2] 2 500 = [[exR0, exR1], [exR2]] := by decide +kernel
theorem ex_noop : valE noop = [1, 5, 98, 97, 116, 99, 104] := by decide +kernel
theorem ex_show : showE (decE (valE exE)) = [98, 97, 116, 99, 104, 32, 99, 48, 35, 51, 32, 112, 117, 116, 32, 97, 32, 120, 59, 32, 99, 50, 35, 49, 32, 99, 111, 117, 110, 116] := by
  rw [decE_val exE ex_valid]; decide +kernel
set_option maxRecDepth 100000 in
set_option maxHeartbeats 1000000 in
theorem example_any (w : World) : Calls Tryd.prog 29 #[] w (RetOwn [exR0, exR1] w) := by
  have HO := Lib.hid (World.ownsRow_lit (base := w.heap.size) (e := 42) (size := 3) w #[.int .i64 0, .int .i64 3, .string ⟨#[112, 117, 116, 32, 97, 32, 120]⟩, .int .i64 2, .int .i64 1, .string ⟨#[99, 111, 117, 110, 116]⟩] 2 (Nat.le_refl _) (by simp [maxLen]) rfl)
  go_enter Tryd.func29, Tryd.ntmps29
  go_wp2_with fail
  go_ret
  exact ret_ow rfl HO.out (below_new w _)
theorem ex_rqB : ∀ r ∈ [exR0, exR1, exR2], I64 r.client ∧ I64 r.number ∧ r.op.length ≤ 4096 := by
  intro r hr
  simp only [List.mem_cons, List.not_mem_nil, or_false] at hr
  rcases hr with rfl | rfl | rfl <;> exact ⟨by unfold I64; decide, by unfold I64; decide, by decide⟩
theorem ex_rqB2 : ∀ r ∈ [exR0, exR1], I64 r.client ∧ I64 r.number ∧ r.op.length ≤ 4096 := by
  intro r hr
  simp only [List.mem_cons, List.not_mem_nil, or_false] at hr
  exact ex_rqB r (by rcases hr with rfl | rfl <;> simp)
theorem two_of {bs : List Bt} {a b : List Rq} (h : bs.map Bt.l = [a, b]) : ∃ x y, bs = [x, y] ∧ x.l = a ∧ y.l = b := by
  match bs with
  | [] => simp at h
  | [_] => simp at h
  | [x, y] =>
    simp only [List.map_cons, List.map_nil, List.cons.injEq, and_true] at h
    exact ⟨x, y, rfl, h.1, h.2⟩
  | _ :: _ :: _ :: _ => simp at h
set_option maxRecDepth 100000 in
set_option maxHeartbeats 2000000 in
theorem awake_any (w : World) (he : Env w) : Calls Tryd.prog 11 #[] w (RetBool true w) := by
  obtain ⟨i0, hi, hz0, hz1, hz2⟩ := info_parts infoR
  have HI := Lib.hid hi
  have HZ0 := Lib.hid hz0
  have HZ1 := Lib.hid hz1
  have HZ2 := Lib.hid hz2
  have HE := Lib.hid he
  clear hi hz0 hz1 hz2 he
  go_enter Tryd.func11, Tryd.ntmps11
  go_wp2_with fail
  refine (example_any _).mono ?_
  rintro e w1 ⟨A1, c1, rfl, o1, b1⟩
  have B1 := Lib.hid b1
  have HC1 : Hid (Calls Tryd.prog 13 #[.agg #[.int .i64 1, .int .i64 0, .slice A1 2 c1]] w1 (RetStrErr (valE exE) 0 w1)) := Lib.hid (by
    have h := enEncode_any 1 0 [exR0, exR1] A1 c1 w1 (HE.out.below b1) (own_in o1 (by decide) (fun r hr => by have := (ex_rqB2 r hr).2.2; omega)) (by decide) ex_rqB2 ⟨by decide, by decide⟩
    have hv : vEn ⟨1, 0, [exR0, exR1]⟩ = 0 := ex_valid
    unfold encE at h
    rw [hv, if_pos rfl] at h
    exact h)
  clear b1 o1
  go_wp2_with fail
  refine HC1.out.mono ?_
  rintro e w2 ⟨rfl, b2⟩
  have B2 := Lib.hid (bon B1.out b2)
  clear b2
  go_wp2_with fail
  refine (example_any _).mono ?_
  rintro e w3 ⟨A3, c3, rfl, o3, b3⟩
  have B3 := Lib.hid (bon B2.out b3)
  have HO3 := Lib.hid o3
  have hz3 := b3.size
  clear b3 o3
  go_wp2_with (at_builtin; refine wpList_append_own _ rfl _ _ 22 rfl w2.heap.size 42 i0 _ 3 32 Tryd.underlying22 HI.out HZ0.out HZ1.out HZ2.out rfl (by decide) _ 2 _ rfl (HO3.out.alloc _) ⟨w3.heap.size, 0, none⟩ 1 1 (rqC exR2) rfl rfl (cell_new _ _ _ _ rfl) (by simp [rqC, Value.oneCell']) (by simp [maxLen]) (by simp) (by simp; omega) ?_)
  intro v' w4 hown' hgrow _
  obtain ⟨A4, c4, hv4⟩ := ownsRow_form hown'
  subst hv4
  have HB4 := Lib.hid (below_grown (B3.out.alloc B3.out.size _) (by have := B3.out.size; simp; omega) hgrow (fun g hg => by have := (HO3.out.lt g hg).1; have := B2.out.size; omega))
  have HC4 : Hid (Calls Tryd.prog 22 #[.slice A4 3 c4, .int .i64 2, .int .i64 500] w4 (RetBat 0 [[exR0, exR1], [exR2]] w4)) := Lib.hid (by
    have h9 : w4.ownsRow w2.heap.size 42 3 (.slice A4 [exR0, exR1, exR2].length c4) [exR0, exR1, exR2].length ([exR0, exR1, exR2].flatMap rqC) := hown'
    have h := batches_any A4 c4 [exR0, exR1, exR2] 2 500 w4 (HE.out.below HB4.out) (own_in h9 (by decide) (fun r hr => by have := (ex_rqB r hr).2.2; omega)) (by decide)
    rw [ex_batE, ex_batL] at h
    exact h)
  clear hown' hgrow
  go_wp2_with fail
  refine HC4.out.mono ?_
  rintro e w5 ⟨A5, c5, bs, rfl, hbs, hr5, hx5, hc5, b5⟩
  have HB5 := Lib.hid (bon HB4.out b5)
  obtain ⟨x, y, rfl, hx, hy⟩ := two_of hbs
  obtain ⟨g, o, rfl, hg, hcc⟩ := hr5.cells (by simp [btC])
  have hc0 : w5.cell? ⟨g, o + 2, none⟩ = some (.slice x.a 2 x.c) := by
    have := hcc 2 _ rfl
    rwa [hx] at this
  have hc1 : w5.cell? ⟨g, o + 3 + 2, none⟩ = some (.slice y.a 1 y.c) := by
    have := hcc 5 _ rfl
    rwa [hy] at this
  have HK : Hid (∀ W, Below w5.heap.size w5 W → W.cell? ⟨g, o + 2, none⟩ = some (.slice x.a 2 x.c) ∧ W.cell? ⟨g, o + 3 + 2, none⟩ = some (.slice y.a 1 y.c)) := Lib.hid (fun W hW => ⟨(hW.cell (p := ⟨g, o + 2, none⟩) hg).trans hc0, (hW.cell (p := ⟨g, o + 3 + 2, none⟩) hg).trans hc1⟩)
  have HN : Hid (Calls Tryd.prog 30 #[] w5 (RetStr [1, 5, 98, 97, 116, 99, 104] w5)) := Lib.hid (by have h := noop_any w5 (HE.out.below HB5.out); rwa [ex_noop] at h)
  have HS : Hid (∀ W, Below w5.heap.size w5 W → Calls Tryd.prog 20 #[.string ⟨(valE exE).toArray⟩] W (RetStr [98, 97, 116, 99, 104, 32, 99, 48, 35, 51, 32, 112, 117, 116, 32, 97, 32, 120, 59, 32, 99, 50, 35, 49, 32, 99, 111, 117, 110, 116] W)) := Lib.hid (fun W hW => by
    have h := show_any (valE exE) W (HE.out.below (bon HB5.out hW)) (by have := (strs_ok exE ex_valid).2.2.2; omega)
    rwa [ex_show] at h)
  simp only [List.length_cons, List.length_nil]
  clear hbs hr5 hx5 hc5 b5 hcc hx hy hc0 hc1
  go_wp2_with fail
  refine HN.out.mono ?_
  rintro e w6 ⟨rfl, b6⟩
  have B6 := Lib.hid b6
  clear b6
  go_wp2_with fail
  refine (HS.out _ B6.out).mono ?_
  rintro e w7 ⟨rfl, b7⟩
  have B7 := Lib.hid (bon B6.out b7)
  obtain ⟨d0, d1⟩ := HK.out _ B7.out
  clear b7
  go_wp2_with fail
  go_ret
  exact ret_bl rfl (bon HB5.out B7.out)
end Go.Proofs.YthmoplkleopahaaDoor
