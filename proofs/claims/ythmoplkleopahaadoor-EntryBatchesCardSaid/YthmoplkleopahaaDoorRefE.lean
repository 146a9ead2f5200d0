/- The contract of the reference's value: a batch. -/
import Derived.Test.YthmoplkleopahaaDoorRefD
namespace Go.Proofs.YthmoplkleopahaaDoor
open Go.RowKit

set_option maxRecDepth 100000 in
set_option maxHeartbeats 4000000 in
theorem refValue_batch (kind cfg : Int) (rs : List Rq) (A : Option Addr) (c : Nat) (w : World) (h : RqIn w A c rs) (hn : rs.length ≤ 1000) (hok : ∀ r ∈ rs, RqB r) (h2 : kind ≠ 2) (h3 : kind ≠ 3) :
    Calls Tryd.prog 32 #[.agg #[.int .i64 kind, .int .i64 cfg, .slice A rs.length c]] w (RetStr (valE ⟨kind, cfg, rs⟩) w) := by
  have HY : Hid (valE ⟨kind, cfg, rs⟩ = putList (wBatch :: rs.flatMap rqS)) := Lib.hid (by unfold valE; rw [strs_other kind cfg rs h2 h3])
  have q2 : (kind == 2) = false := by simpa using h2
  have q3 : (kind == 3) = false := by simpa using h3
  have B0 := Lib.hid (below_new w (.cells #[.int .i64 kind, .int .i64 cfg, .slice A rs.length c] 24))
  have HV := Lib.hid h
  have HOk := Lib.hid hok
  obtain ⟨i0, hi, hz0, hz1, hz2⟩ := info_parts infoS
  have HI := Lib.hid hi
  have HZ0 := Lib.hid hz0
  have HZ1 := Lib.hid hz1
  have HZ2 := Lib.hid hz2
  clear hi hz0 hz1 hz2 h h2 h3 hok
  go_enter Tryd.func32, Tryd.ntmps32
  go_wp2_with fail
  go_loopw [3, 4] (fun o i wr => ∃ (k g cp : Nat), i = .int .i64 k ∧ k ≤ rs.length ∧ o = .slice (some ⟨g, 0, none⟩) (1 + 3 * k) cp ∧ wr.ownsRow (w.heap.size + 1) 9 1 o (1 + 3 * k) (strC (wBatch :: (rs.take k).flatMap rqS)) ∧ Bx w [.int .i64 kind, .int .i64 cfg, .slice A rs.length c] 24 wr) (fun _ i _ => rs.length - (intOf i).toNat)
  case atStart =>
    refine ⟨0, w.heap.size + 1, 1, rfl, by omega, rfl, ?_, ?_⟩
    · have h9 := World.ownsRow_lit (base := w.heap.size + 1) (e := 9) (size := 1) (w.alloc (.cells #[.int .i64 kind, .int .i64 cfg, .slice A rs.length c] 24)) #[.string ⟨#[98, 97, 116, 99, 104]⟩] 1 (by simp) (by simp [maxLen]) rfl
      simpa [strC, wBatch] using h9
    · exact bx_alloc (bx_new w _ _) _
  case round =>
    obtain ⟨k, og, cp, rfl, hk, rfl, hown, hbx⟩ := hrel
    have HO := Lib.hid hown
    have HBX := Lib.hid hbx
    have HB := Lib.hid (bx_low hbx)
    have hge := bx_size hbx
    have d2 : wr.cell? ⟨w.heap.size, 2, none⟩ = some (.slice A rs.length c) := bx_cell hbx 2 _ rfl
    clear hown hbx
    by_cases hlt : k < rs.length
    · have i0' : (0 : Int) ≤ (k : Int) := by omega
      have i1 : (k : Int) < (rs.length : Int) := by omega
      obtain ⟨g, o, rfl, hg, hcc⟩ := HV.out.rd.at rqC_len (by omega) hlt
      have a0 := hcc wr HB.out 0 _ rfl
      have a1 := hcc wr HB.out 1 _ rfl
      have a2 := hcc wr HB.out 2 _ rfl
      clear hcc
      simp only [Nat.add_zero] at a0
      obtain ⟨o1, o2, o3, o4, o5, o6⟩ := HOk.out rs[k] (List.getElem_mem hlt)
      have hlo := (HO.out.lt og rfl)
      have HI0 : Hid (∀ (n : Int) w1, 0 ≤ n → n ≤ 1000000 → Bx wr (rqC rs[k]) 42 w1 → Calls Tryd.prog 41 #[.int .i64 n] w1 (Gives wr (rqC rs[k]) 42 (Lib.itoa n))) :=
        Lib.hid (fun n w1 h0 h1 hb => gives_of hb (digits_any n h0 (by omega) w1))
      have n1 : rs[k].client ≤ 1000000 := by omega
      have n2 : 0 ≤ rs[k].number := by omega
      have HC : Hid (∀ w1, Bx wr (rqC rs[k]) 42 w1 → w1.cell? ⟨wr.heap.size, 0, none⟩ = some (.int .i64 rs[k].client) ∧ w1.cell? ⟨wr.heap.size, 1, none⟩ = some (.int .i64 rs[k].number) ∧ w1.cell? ⟨wr.heap.size, 2, none⟩ = some (.string ⟨rs[k].op.toArray⟩)) :=
        Lib.hid (fun w1 hb => ⟨bx_cell hb 0 _ rfl, bx_cell hb 1 _ rfl, bx_cell hb 2 _ rfl⟩)
      have HCg : Hid (∀ W w1, Bx wr (rqC rs[k]) 42 W → W.grownBy w1 (some og) → w1.cell? ⟨wr.heap.size, 0, none⟩ = some (.int .i64 rs[k].client) ∧ w1.cell? ⟨wr.heap.size, 1, none⟩ = some (.int .i64 rs[k].number) ∧ w1.cell? ⟨wr.heap.size, 2, none⟩ = some (.string ⟨rs[k].op.toArray⟩)) :=
        Lib.hid (fun W w1 hb hg => by
          have hne : some wr.heap.size ≠ some og := by simp; omega
          have hlt := bx_size hb
          rw [hg.cell_far _ (by show wr.heap.size < W.heap.size; omega) hne, hg.cell_far _ (by show wr.heap.size < W.heap.size; omega) hne, hg.cell_far _ (by show wr.heap.size < W.heap.size; omega) hne]
          exact HC.out W hb)
      have H0 : Bx wr (rqC rs[k]) 42 (wr.alloc (.cells #[.int .i64 rs[k].client, .int .i64 rs[k].number, .string ⟨rs[k].op.toArray⟩] 42)) := bx_new wr (rqC rs[k]) 42
      have HOW : Hid (∀ w1, Bx wr (rqC rs[k]) 42 w1 → w1.ownsRow (w.heap.size + 1) 9 1 (.slice (some ⟨og, 0, none⟩) (1 + 3 * k) cp) (1 + 3 * k) (strC (wBatch :: (rs.take k).flatMap rqS))) := Lib.hid (fun w1 hb => ownsRow_below HO.out (bx_low hb))
      clear o2 o3 o5 o6
      go_wp2_with fail
      go_region_held3 (fun w1 => w1.cell? ⟨wr.heap.size, 0, none⟩ = some (.int .i64 rs[k].client) ∧ w1.cell? ⟨wr.heap.size, 1, none⟩ = some (.int .i64 rs[k].number) ∧ w1.cell? ⟨wr.heap.size, 2, none⟩ = some (.string ⟨rs[k].op.toArray⟩))
        (first | exact HC.out _ (bx_drew ‹Bx _ _ _ _›) | exact HC.out _ ‹Bx _ _ _ _› | exact HC.out _ (bx_drew (bx_alloc ‹Bx _ _ _ _› _)) | exact HC.out _ (bx_alloc ‹Bx _ _ _ _› _) | exact HCg.out _ _ (bx_drew (bx_alloc ‹Bx _ _ _ _› _)) ‹_› | exact HCg.out _ _ (bx_alloc ‹Bx _ _ _ _› _) ‹_›)
        (first
          | (go_at_call 41; refine (HI0.out _ _ (by assumption) (by assumption) (by first | assumption | exact bx_drew ‹Bx _ _ _ _›)).mono ?_; rintro e w2 ⟨rfl, b2⟩)
          | (refine step_append_lies _ (by rfl) _ _ _ (by rfl) (w.heap.size + 1) 9 i0 _ 1 16 Tryd.underlying45 HI.out HZ0.out HZ1.out HZ2.out rfl (by decide) _ _ _ (by rfl) (((HOW.out _ ‹Bx _ _ _ _›).alloc _).drew) _ 3 3 [.string ⟨(Lib.itoa rs[k].client).toArray⟩, .string ⟨(Lib.itoa rs[k].number).toArray⟩, .string ⟨rs[k].op.toArray⟩] (by rfl) (by rfl) (World.news_of_block (cs := #[.string ⟨(Lib.itoa rs[k].client).toArray⟩, .string ⟨(Lib.itoa rs[k].number).toArray⟩, .string ⟨rs[k].op.toArray⟩]) (t := 9) (fr := (0, 0)) (heap_alloc_new _ _)) (by simp [Value.oneCell']) (by omega) (by simp [maxLen]; omega) (by omega) (by have hz := bx_size b2; simp; omega) _ rfl ?_; intro gg cap w3 hown1 hgrow hat hlt3))
      all_goals
        have HO3 := Lib.hid hown1
        have HG3 := Lib.hid hgrow
        have HB2 := Lib.hid (bx_low b2)
        have HS2 := bx_size b2
        clear hown1 hgrow hat b2
        go_wp2_with fail
        go_roundw
        case rel =>
          refine ⟨k + 1, gg, cap, by go_num, by omega, by rw [show 1 + 3 * (k + 1) = 1 + 3 * k + 3 from by omega], ?_, below_grown (Below.alloc (bx_on HBX.out HB2.out) (by omega) _) (by simp; omega) HG3.out (fun g hg => by simp [Value.ownBlock] at hg; omega)⟩
          · have he9 : strC (wBatch :: (rs.take (k + 1)).flatMap rqS) = strC (wBatch :: (rs.take k).flatMap rqS) ++ [.string ⟨(Lib.itoa rs[k].client).toArray⟩, .string ⟨(Lib.itoa rs[k].number).toArray⟩, .string ⟨rs[k].op.toArray⟩] := by
              rw [List.take_succ_eq_append_getElem hlt, List.flatMap_append]
              simp only [List.flatMap_cons, List.flatMap_nil, List.append_nil, rqS, strC, List.map_cons, List.map_append, List.map_nil, List.cons_append]
            rw [show 1 + 3 * (k + 1) = 1 + 3 * k + 3 from by omega, he9]
            exact HO3.out
        case measure => simp [intOf]; omega
    · have hke : k = rs.length := by omega
      have hl2 := rqs_code rs HOk.out
      have HL : Hid (wBatch :: (rs.take k).flatMap rqS = wBatch :: rs.flatMap rqS) := Lib.hid (by rw [List.take_of_length_le (by omega)])
      have HP : Hid (Calls Tryd.prog 46 #[.slice (some ⟨og, 0, none⟩) (1 + 3 * k) cp] wr (RetStr (valE ⟨kind, cfg, rs⟩) wr)) := Lib.hid (by
        have hlen : (wBatch :: rs.flatMap rqS).length = 1 + 3 * k := by rw [List.length_cons, hl2.2.1]; omega
        have h9 := refList_any (some ⟨og, 0, none⟩) cp (wBatch :: rs.flatMap rqS) wr (by rw [hlen, ← HL.out]; exact Rd.own HO.out) (by omega) (fun x hx => by
          rcases List.mem_cons.1 hx with rfl | hx
          · simp [wBatch]
          · have := hl2.2.2.2 x hx; omega)
        rw [hlen] at h9
        rw [HY.out]; exact h9)
      clear hl2 hke
      go_wp2_with fail
      refine HP.out.mono ?_
      rintro e w1 ⟨rfl, b1⟩
      go_wp2_with fail
      go_ret
      exact ret_st rfl (bon HB.out b1)
end Go.Proofs.YthmoplkleopahaaDoor
