/- The contract of entry.Show. -/
import Derived.Test.YthmoplkleopahaaDoorEntI
namespace Go.Proofs.YthmoplkleopahaaDoor
open Go.RowKit

theorem vEn_kind (x : En) (h : vEn x = 0) : (x.kind = 1 ∧ x.cfg = 0 ∧ x.rs.length ≤ 8 ∧ ∀ r ∈ x.rs, RqB r) ∨ (x.kind = 2 ∧ 0 ≤ x.cfg ∧ x.cfg < 6 ∧ x.rs = []) ∨ (x.kind = 3 ∧ x.cfg = 0 ∧ x.rs = []) := by
  obtain ⟨k, c, rs⟩ := x
  by_cases h1 : k = 1
  · subst h1
    rw [vEn_batch] at h
    split at h
    · simp at h
    · rename_i hc
      split at h
      · simp at h
      · exact .inl ⟨rfl, by simpa using hc, by show rs.length ≤ 8; omega, vRqs_mem rs [] h⟩
  · by_cases h2 : k = 2
    · subst h2
      rw [vEn_join] at h
      split at h
      · simp at h
      · rename_i hc
        refine .inr (.inl ⟨rfl, by show 0 ≤ c; omega, by show c < 6; omega, ?_⟩)
        show rs = []
        by_cases hr : rs = []
        · exact hr
        · exact absurd (.inr (.inr hr)) hc
    · by_cases h3 : k = 3
      · subst h3
        rw [vEn_finish] at h
        split at h
        · simp at h
        · rename_i hc
          refine .inr (.inr ⟨rfl, ?_, ?_⟩)
          · show c = 0
            by_cases hr : c = 0
            · exact hr
            · exact absurd (.inl hr) hc
          · show rs = []
            by_cases hr : rs = []
            · exact hr
            · exact absurd (.inr hr) hc
      · rw [vEn_other k c rs h1 h2 h3] at h; simp at h
theorem ret_st2 {l : List UInt8} {w w' : World} (x : ByteArray) (h : x = ⟨l.toArray⟩) (hb : Below w.heap.size w w') : RetStr l w (.returned (.string x)) w' := ⟨by rw [h], hb⟩
set_option maxRecDepth 100000 in
set_option maxHeartbeats 1000000 in
theorem show_none (s : List UInt8) (w : World) (he : Env w) (hs : s.length ≤ 2100) (h : decE s = none) : Calls Tryd.prog 20 #[.string ⟨s.toArray⟩] w (RetStr (showE none) w) := by
  have HD := Lib.hid (decode_none s w he hs h)
  clear h
  go_enter Tryd.func20, Tryd.ntmps20
  go_wp2_with fail
  refine HD.out.mono ?_
  rintro e w1 ⟨rfl, b1⟩
  have B1 := Lib.hid b1
  clear b1
  go_wp2_with fail
  go_ret
  exact ret_st rfl (B1.out.alloc B1.out.size _)
set_option maxRecDepth 100000 in
set_option maxHeartbeats 1000000 in
theorem show_join (s : List UInt8) (w : World) (he : Env w) (hs : s.length ≤ 2100) (c : Int) (h0 : 0 ≤ c) (h1 : c < 6) (h : decE s = some ⟨2, c, []⟩) : Calls Tryd.prog 20 #[.string ⟨s.toArray⟩] w (RetStr (showE (some ⟨2, c, []⟩)) w) := by
  have HD := Lib.hid (decode_some s w he hs _ h)
  have HI := Lib.hid (fun w1 (hb : Below w.heap.size w w1) => itoa_any c (by omega) (by omega) w1 (he.below hb))
  have hl := itoa_len c h0 (by omega)
  clear h he
  go_enter Tryd.func20, Tryd.ntmps20
  go_wp2_with fail
  refine HD.out.mono ?_
  rintro e w1 ⟨A, cp, ⟨rfl, r1⟩, b1⟩
  have B1 := Lib.hid (b1.alloc b1.size (.cells #[.int .i64 2, .int .i64 c, .slice A ([] : List Rq).length cp] 24))
  clear b1
  go_wp2_with fail
  refine (HI.out _ B1.out).mono ?_
  rintro e w2 ⟨rfl, b2⟩
  have B2 := Lib.hid (bon B1.out b2)
  clear b2
  go_wp2_with fail
  go_ret
  exact ret_st2 _ (by rw [str_cat]; rfl) B2.out
set_option maxRecDepth 100000 in
set_option maxHeartbeats 1000000 in
theorem show_finish (s : List UInt8) (w : World) (he : Env w) (hs : s.length ≤ 2100) (h : decE s = some ⟨3, 0, []⟩) : Calls Tryd.prog 20 #[.string ⟨s.toArray⟩] w (RetStr (showE (some ⟨3, 0, []⟩)) w) := by
  have HD := Lib.hid (decode_some s w he hs _ h)
  clear h he
  go_enter Tryd.func20, Tryd.ntmps20
  go_wp2_with fail
  refine HD.out.mono ?_
  rintro e w1 ⟨A, cp, ⟨rfl, r1⟩, b1⟩
  have B1 := Lib.hid (b1.alloc b1.size (.cells #[.int .i64 3, .int .i64 0, .slice A ([] : List Rq).length cp] 24))
  clear b1
  go_wp2_with fail
  go_ret
  exact ret_st rfl B1.out
set_option maxRecDepth 100000 in
set_option maxHeartbeats 1000000 in
theorem show_noop (s : List UInt8) (w : World) (he : Env w) (hs : s.length ≤ 2100) (h : decE s = some ⟨1, 0, []⟩) : Calls Tryd.prog 20 #[.string ⟨s.toArray⟩] w (RetStr (showE (some ⟨1, 0, []⟩)) w) := by
  have HD := Lib.hid (decode_some s w he hs _ h)
  clear h he
  go_enter Tryd.func20, Tryd.ntmps20
  go_wp2_with fail
  refine HD.out.mono ?_
  rintro e w1 ⟨A, cp, ⟨rfl, r1⟩, b1⟩
  have B1 := Lib.hid (b1.alloc b1.size (.cells #[.int .i64 1, .int .i64 0, .slice A ([] : List Rq).length cp] 24))
  clear b1
  simp only [List.length_nil]
  go_wp2_with fail
  go_ret
  exact ret_st rfl B1.out
theorem join_joinS (sep : List UInt8) (l : List (List UInt8)) : Lib.join l sep = joinS sep l := by
  match l with
  | [] => rfl
  | [x] => rw [Lib.join_one]; rfl
  | x :: y :: r =>
    rw [Lib.join_cons, joinS, ← join_joinS sep (y :: r), Lib.join_cons]
    simp [Lib.joinTail]
theorem joinS_len (sep : List UInt8) (l : List (List UInt8)) : (joinS sep l).length ≤ tot l + sep.length * l.length := by
  match l with
  | [] => simp [joinS, tot]
  | [x] => simp [joinS, tot]
  | x :: y :: r =>
    have := joinS_len sep (y :: r)
    simp only [joinS, List.length_append, tot_cons, List.length_cons, Nat.mul_succ] at this ⊢
    omega
theorem partR_len (r : Rq) (h : RqB r) : (partR r).length ≤ 220 := by
  obtain ⟨h1, h2, h3, h4, h5, h6⟩ := h
  have a := itoa_len r.client h1 (by omega)
  have b := itoa_len r.number (by omega) (by omega)
  simp only [partR, List.length_append, List.length_cons, List.length_nil]
  omega
theorem parts_tot (l : List Rq) (h : ∀ r ∈ l, RqB r) : tot (l.map partR) ≤ 220 * l.length := by
  induction l with
  | nil => simp [tot]
  | cons r t ih =>
    have h1 := partR_len r (h r (by simp))
    have h2 := ih (fun y hy => h y (by simp [hy]))
    rw [List.map_cons, tot_cons, List.length_cons]
    omega
set_option maxRecDepth 100000 in
set_option maxHeartbeats 1000000 in
theorem show_batch (s : List UInt8) (w : World) (he : Env w) (hs : s.length ≤ 2100) (rs : List Rq) (hrs : rs ≠ []) (h8 : rs.length ≤ 8) (hB : ∀ r ∈ rs, RqB r) (h : decE s = some ⟨1, 0, rs⟩) : Calls Tryd.prog 20 #[.string ⟨s.toArray⟩] w (RetStr (showE (some ⟨1, 0, rs⟩)) w) := by
  have HD := Lib.hid (decode_some s w he hs _ h)
  have HBB := Lib.hid hB
  have hpos := List.length_pos_iff.2 hrs
  have hz : ((rs.length : Int) == 0) = false := by rw [beq_eq_false_iff_ne]; omega
  obtain ⟨i0, hi, hz0, hz1, hz2⟩ := info_parts infoS
  have HI := Lib.hid hi
  have HZ0 := Lib.hid hz0
  have HZ1 := Lib.hid hz1
  have HZ2 := Lib.hid hz2
  have HE := Lib.hid he
  have HY : Hid (showE (some ⟨1, 0, rs⟩) = [98, 97, 116, 99, 104, 32] ++ joinS [59, 32] (rs.map partR)) := Lib.hid (by
    simp only [showE]
    rw [if_neg (by decide), if_neg (by decide), if_neg hrs]
    rfl)
  clear hi hz0 hz1 hz2 h he hB hrs
  go_enter Tryd.func20, Tryd.ntmps20
  go_wp2_with fail
  refine HD.out.mono ?_
  rintro e w1 ⟨A, cp, ⟨rfl, r1⟩, b1⟩
  have HQ := Lib.hid r1
  have B0 := Lib.hid b1
  have hz1 := b1.size
  clear b1 r1
  go_wp2_with fail
  go_loopw [5, 36] (fun o i wr => ∃ (k : Nat), i = .int .i64 k ∧ k ≤ rs.length ∧ wr.ownsRow w1.heap.size 9 1 o k (strC ((rs.take k).map partR)) ∧ Below w1.heap.size w1 wr ∧ w1.heap.size + 1 ≤ wr.heap.size) (fun _ i _ => rs.length - (intOf i).toNat)
  case atStart => exact ⟨0, rfl, by omega, World.ownsRow_nil _ _ _ _, below_new w1 _, by simp⟩
  case round =>
    obtain ⟨k, rfl, hk, hown, hb, hge⟩ := hrel
    have HO := Lib.hid hown
    have HB := Lib.hid hb
    clear hown hb
    by_cases hlt : k < rs.length
    · have i0' : (0 : Int) ≤ (k : Int) := by omega
      have i1 : (k : Int) < (rs.length : Int) := by omega
      obtain ⟨g, o, rfl, hg, hcc⟩ := HQ.out.rd.at rqC_len (by omega) hlt
      have a0 := hcc wr HB.out 0 _ rfl
      have a1 := hcc wr HB.out 1 _ rfl
      have a2 := hcc wr HB.out 2 _ rfl
      clear hcc
      simp only [Nat.add_zero] at a0
      have hrb := HBB.out rs[k] (List.getElem_mem hlt)
      obtain ⟨q1, q2, q3, q4, q5, q6⟩ := hrb
      have l1 := itoa_len rs[k].client q1 (by omega)
      have l2 := itoa_len rs[k].number (by omega) (by omega)
      have HX : Hid (∀ w2, Bx wr (rqC rs[k]) 42 w2 → Env w2) := Lib.hid (fun w2 hb => HE.out.below (bon (bon B0.out HB.out) (bx_low hb)))
      have HI0 : Hid (∀ w1, Bx wr (rqC rs[k]) 42 w1 → Calls Tryd.prog 39 #[.int .i64 rs[k].client] w1 (Gives wr (rqC rs[k]) 42 (Lib.itoa rs[k].client))) :=
        Lib.hid (fun w1 hb => gives_of hb (itoa_any _ (by omega) (by omega) w1 (HX.out w1 hb)))
      have HI1 : Hid (∀ w1, Bx wr (rqC rs[k]) 42 w1 → Calls Tryd.prog 39 #[.int .i64 rs[k].number] w1 (Gives wr (rqC rs[k]) 42 (Lib.itoa rs[k].number))) :=
        Lib.hid (fun w1 hb => gives_of hb (itoa_any _ (by omega) (by omega) w1 (HX.out w1 hb)))
      have HC : Hid (∀ w1, Bx wr (rqC rs[k]) 42 w1 → w1.cell? ⟨wr.heap.size, 0, none⟩ = some (.int .i64 rs[k].client) ∧ w1.cell? ⟨wr.heap.size, 1, none⟩ = some (.int .i64 rs[k].number) ∧ w1.cell? ⟨wr.heap.size, 2, none⟩ = some (.string ⟨rs[k].op.toArray⟩)) :=
        Lib.hid (fun w1 hb => ⟨bx_cell hb 0 _ rfl, bx_cell hb 1 _ rfl, bx_cell hb 2 _ rfl⟩)
      have hne : some wr.heap.size ≠ u5.ownBlock := by
        intro h0
        have := (HO.out.lt wr.heap.size h0.symm).2
        omega
      have HCg : Hid (∀ W w1, Bx wr (rqC rs[k]) 42 W → W.grownBy w1 u5.ownBlock → w1.cell? ⟨wr.heap.size, 0, none⟩ = some (.int .i64 rs[k].client) ∧ w1.cell? ⟨wr.heap.size, 1, none⟩ = some (.int .i64 rs[k].number) ∧ w1.cell? ⟨wr.heap.size, 2, none⟩ = some (.string ⟨rs[k].op.toArray⟩)) :=
        Lib.hid (fun W w1 hb hg => by
          have hlt := bx_size hb
          rw [hg.cell_far _ (by show wr.heap.size < W.heap.size; omega) hne, hg.cell_far _ (by show wr.heap.size < W.heap.size; omega) hne, hg.cell_far _ (by show wr.heap.size < W.heap.size; omega) hne]
          exact HC.out W hb)
      have H0 : Bx wr (rqC rs[k]) 42 (wr.alloc (.cells #[.int .i64 rs[k].client, .int .i64 rs[k].number, .string ⟨rs[k].op.toArray⟩] 42)) := bx_new wr (rqC rs[k]) 42
      have HOW : Hid (∀ w2, Bx wr (rqC rs[k]) 42 w2 → w2.ownsRow w1.heap.size 9 1 u5 k (strC ((rs.take k).map partR))) := Lib.hid (fun w1 hb => ownsRow_below HO.out (bx_low hb))
      have s1 : ¬ (9223372036854775807 < 1 + (Lib.itoa rs[k].client).length) := by omega
      have s2 : ¬ (9223372036854775807 < 1 + (Lib.itoa rs[k].client).length + 1) := by omega
      have s3 : ¬ (9223372036854775807 < 1 + (Lib.itoa rs[k].client).length + 1 + (Lib.itoa rs[k].number).length) := by omega
      have s4 : ¬ (9223372036854775807 < 1 + (Lib.itoa rs[k].client).length + 1 + (Lib.itoa rs[k].number).length + 1) := by omega
      have s5 : ¬ (9223372036854775807 < 1 + (Lib.itoa rs[k].client).length + 1 + (Lib.itoa rs[k].number).length + 1 + rs[k].op.length) := by omega
      clear q1 q2 q3 q4 q5 q6 l1 l2 hne
      go_wp2_with fail
      go_region_held3 (fun w1 => w1.cell? ⟨wr.heap.size, 0, none⟩ = some (.int .i64 rs[k].client) ∧ w1.cell? ⟨wr.heap.size, 1, none⟩ = some (.int .i64 rs[k].number) ∧ w1.cell? ⟨wr.heap.size, 2, none⟩ = some (.string ⟨rs[k].op.toArray⟩))
        (first | exact HC.out _ (bx_drew ‹Bx _ _ _ _›) | exact HC.out _ ‹Bx _ _ _ _› | exact HC.out _ (bx_drew (bx_alloc ‹Bx _ _ _ _› _)) | exact HC.out _ (bx_alloc ‹Bx _ _ _ _› _) | exact HCg.out _ _ (bx_drew (bx_alloc ‹Bx _ _ _ _› _)) ‹_› | exact HCg.out _ _ (bx_alloc ‹Bx _ _ _ _› _) ‹_›)
        (first
          | (go_at_call 39; refine (HI0.out _ (by first | assumption | exact bx_drew ‹Bx _ _ _ _›)).mono ?_; rintro e w2 ⟨rfl, b2⟩)
          | (go_at_call 39; refine (HI1.out _ (by first | assumption | exact bx_drew ‹Bx _ _ _ _›)).mono ?_; rintro e w2 ⟨rfl, b2⟩)
          | (refine step_append_lies _ (by rfl) _ _ _ (by rfl) w1.heap.size 9 i0 _ 1 16 Tryd.underlying45 HI.out HZ0.out HZ1.out HZ2.out rfl (by decide) _ _ _ (by rfl) (((HOW.out _ ‹Bx _ _ _ _›).alloc _).drew) _ 1 1 [.string (ByteArray.mk #[99] ++ ByteArray.mk (Lib.itoa rs[k].client).toArray ++ ByteArray.mk #[35] ++ ByteArray.mk (Lib.itoa rs[k].number).toArray ++ ByteArray.mk #[32] ++ ByteArray.mk rs[k].op.toArray)] (by rfl) (by rfl) (World.news_of_block (cs := #[.string (ByteArray.mk #[99] ++ ByteArray.mk (Lib.itoa rs[k].client).toArray ++ ByteArray.mk #[35] ++ ByteArray.mk (Lib.itoa rs[k].number).toArray ++ ByteArray.mk #[32] ++ ByteArray.mk rs[k].op.toArray)]) (t := 9) (fr := (0, 0)) (heap_alloc_new _ _)) (by simp [Value.oneCell']) (by omega) (by simp [maxLen]; omega) (by omega) (by have hz := bx_size b2; simp; omega) _ rfl ?_; intro gg cap w3 hown1 hgrow hat hlt3))
      all_goals
        have HO3 := Lib.hid hown1
        have HG3 := Lib.hid hgrow
        have HB2 := Lib.hid (bx_low b2)
        have HS2 := bx_size b2
        clear hown1 hgrow hat b2
        go_wp2_with fail
        go_roundw
        case rel =>
          refine ⟨k + 1, by go_num, by omega, ?_, ?_, ?_⟩
          · have he9 : strC ((rs.take (k + 1)).map partR) = strC ((rs.take k).map partR) ++ [.string (ByteArray.mk #[99] ++ ByteArray.mk (Lib.itoa rs[k].client).toArray ++ ByteArray.mk #[35] ++ ByteArray.mk (Lib.itoa rs[k].number).toArray ++ ByteArray.mk #[32] ++ ByteArray.mk rs[k].op.toArray)] := by
              rw [List.take_succ_eq_append_getElem hlt, List.map_append]
              have : ByteArray.mk #[99] ++ ByteArray.mk (Lib.itoa rs[k].client).toArray ++ ByteArray.mk #[35] ++ ByteArray.mk (Lib.itoa rs[k].number).toArray ++ ByteArray.mk #[32] ++ ByteArray.mk rs[k].op.toArray = ByteArray.mk (partR rs[k]).toArray := by
                have e1 : ByteArray.mk #[99] = ByteArray.mk ([99] : List UInt8).toArray := rfl
                have e2 : ByteArray.mk #[35] = ByteArray.mk ([35] : List UInt8).toArray := rfl
                have e3 : ByteArray.mk #[32] = ByteArray.mk ([32] : List UInt8).toArray := rfl
                rw [e1, e2, e3, str_cat, str_cat, str_cat, str_cat, str_cat]
                rfl
              rw [this]
              simp [strC]
            rw [he9]
            exact HO3.out
          · exact below_grown ((bon HB.out HB2.out).alloc (by omega) _) (by simp; omega) HG3.out (fun g hg => (HO.out.lt g hg).1)
          · have := HG3.out.size; simp at this; omega
        case measure => simp [intOf]; omega
    · have hke : k = rs.length := by omega
      subst hke
      obtain ⟨og, oc, rfl, _, hlo⟩ := HO.out.form hpos
      have HJ : Hid (Calls Tryd.prog 40 #[.slice (some ⟨og, 0, none⟩) rs.length oc, .string ⟨#[59, 32]⟩] wr (RetStr (joinS [59, 32] (rs.map partR)) wr)) := Lib.hid (by
        have hr := Rd.own HO.out
        rw [List.take_length] at hr
        obtain ⟨bk, o, e1, hbk, hcc⟩ := hr.cells (by simpa [strC] using hpos)
        simp only [Option.some.injEq, Addr.mk.injEq, and_true] at e1
        obtain ⟨rfl, rfl⟩ := e1
        have ht := parts_tot rs HBB.out
        have hj := joinS_len [59, 32] (rs.map partR)
        simp only [List.length_map, List.length_cons, List.length_nil] at hj
        have hm : ((rs.map partR).map fun x => ByteArray.mk x.toArray).map (·.data.toList) = rs.map partR := by simp
        have h9 := Tryd.strings_Join og 0 oc ((rs.map partR).map fun x => ⟨x.toArray⟩) ⟨#[59, 32]⟩ wr (fun j x hx => hcc j _ (by
          simp only [List.getElem?_map, Option.map_eq_some_iff] at hx
          obtain ⟨y, ⟨z, hz, rfl⟩, rfl⟩ := hx
          simp [strC, hz])) hbk (by simp; omega) (by have := own_cap HO.out; simpa using this) (by rw [hm, join_joinS]; show (joinS [59, 32] (rs.map partR)).length ≤ _; omega)
        rw [hm, join_joinS] at h9
        rw [List.length_map, List.length_map] at h9
        exact h9.mono fun _ _ h => h)
      have hjl : (joinS [59, 32] (rs.map partR)).length ≤ 2000 := by
        have ht := parts_tot rs HBB.out
        have hj := joinS_len [59, 32] (rs.map partR)
        simp only [List.length_map, List.length_cons, List.length_nil] at hj
        omega
      go_wp2_with fail
      refine HJ.out.mono ?_
      rintro e w2 ⟨rfl, b2⟩
      have B2 := Lib.hid (bon (bon B0.out HB.out) b2)
      clear b2
      go_wp2_with fail
      go_ret
      exact ret_st2 _ (by rw [HY.out, ← str_cat]) B2.out
theorem show_any (s : List UInt8) (w : World) (he : Env w) (hs : s.length ≤ 2100) : Calls Tryd.prog 20 #[.string ⟨s.toArray⟩] w (RetStr (showE (decE s)) w) := by
  cases h : decE s with
  | none => exact show_none s w he hs h
  | some x =>
    obtain ⟨k, c, rs⟩ := x
    rcases vEn_kind _ (decE_right h).1 with ⟨h1, h2, h3, h4⟩ | ⟨h1, h2, h3, h4⟩ | ⟨h1, h2, h3⟩
    · simp only at h1 h2 h3 h4
      subst h1 h2
      by_cases hr : rs = []
      · subst hr; exact show_noop s w he hs h
      · exact show_batch s w he hs rs hr h3 h4 h
    · simp only at h1 h2 h3 h4
      subst h1 h4
      exact show_join s w he hs c h2 h3 h
    · simp only at h1 h2 h3
      subst h1 h2 h3
      exact show_finish s w he hs h
end Go.Proofs.YthmoplkleopahaaDoor
