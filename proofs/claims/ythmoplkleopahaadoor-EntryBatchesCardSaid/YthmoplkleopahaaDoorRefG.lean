/- The contracts of the reference's Valid, Encode. -/
import Derived.Test.YthmoplkleopahaaDoorRefF
namespace Go.Proofs.YthmoplkleopahaaDoor
open Go.RowKit

theorem vEn_ways (kind cfg : Int) (rs : List Rq) : vEn ⟨kind, cfg, rs⟩ = 1 ∨ (kind = 1 ∧ cfg = 0 ∧ 8 < rs.length ∧ vEn ⟨kind, cfg, rs⟩ = 3) ∨ (kind = 1 ∧ cfg = 0 ∧ rs.length ≤ 8 ∧ vEn ⟨kind, cfg, rs⟩ = vRqs [] rs ∧ vRqs [] rs ≠ 0) ∨ vEn ⟨kind, cfg, rs⟩ = 0 := by
  by_cases h0 : vEn ⟨kind, cfg, rs⟩ = 0
  · exact .inr (.inr (.inr h0))
  · by_cases h1 : vEn ⟨kind, cfg, rs⟩ = 1
    · exact .inl h1
    · right
      by_cases k1 : kind = 1
      · subst k1
        rw [vEn_batch] at h0 h1 ⊢
        split at h1
        · exact absurd rfl h1
        · rename_i hc
          rw [if_neg hc] at h0
          have hc0 : cfg = 0 := by simpa using hc
          split at h1
          · rename_i h8; exact .inl ⟨rfl, hc0, h8, by rw [if_neg hc, if_pos h8]⟩
          · rename_i h8
            rw [if_neg h8] at h0
            exact .inr (.inl ⟨rfl, hc0, by omega, by rw [if_neg hc, if_neg h8], h0⟩)
      · exfalso
        by_cases k2 : kind = 2
        · subst k2; rw [vEn_join] at h0 h1; split at h0 <;> simp_all
        · by_cases k3 : kind = 3
          · subst k3; rw [vEn_finish] at h0 h1; split at h0 <;> simp_all
          · exact h1 (vEn_other kind cfg rs k1 k2 k3)
set_option maxRecDepth 100000 in
set_option maxHeartbeats 1000000 in
theorem refValid_big (rs : List Rq) (A : Option Addr) (c : Nat) (w : World) (h8 : 8 < rs.length) (hlen : rs.length ≤ 9223372036854775807) :
    Calls Tryd.prog 16 #[.agg #[.int .i64 1, .int .i64 0, .slice A rs.length c]] w (RetErr 3 w) := by
  have B0 := Lib.hid (bx_low (enCells w 1 0 (.slice A rs.length c)))
  have q : (8 : Int) < (rs.length : Int) := by omega
  go_enter Tryd.func16, Tryd.ntmps16
  go_wp2_with fail
  go_ret
  exact ret_er rfl B0.out
set_option maxRecDepth 100000 in
set_option maxHeartbeats 1000000 in
theorem refValid_reqs (rs : List Rq) (A : Option Addr) (c : Nat) (w : World) (h : RqIn w A c rs) (h8 : rs.length ≤ 8) (hv : vRqs [] rs ≠ 0) :
    Calls Tryd.prog 16 #[.agg #[.int .i64 1, .int .i64 0, .slice A rs.length c]] w (RetErr (vRqs [] rs) w) := by
  have B0 := Lib.hid (bx_low (enCells w 1 0 (.slice A rs.length c)))
  have HQ := Lib.hid (refRequests_any A c rs _ (h.below B0.out))
  have q : ¬ (8 : Int) < (rs.length : Int) := by omega
  generalize vRqs [] rs = v at HQ hv ⊢
  have v1 : (v == 0) = false := by simpa using hv
  have v2 : (v != 0) = true := by simpa using hv
  clear h hv
  go_enter Tryd.func16, Tryd.ntmps16
  go_wp2_with fail
  refine HQ.out.mono ?_
  rintro e w' ⟨rfl, hb⟩
  go_wp2_with fail
  go_ret
  exact ret_er rfl (bon B0.out hb)
set_option maxRecDepth 100000 in
set_option maxHeartbeats 1000000 in
theorem refValid_ok (kind cfg : Int) (rs : List Rq) (A : Option Addr) (c : Nat) (w : World) (h : RqIn w A c rs) (hv : vEn ⟨kind, cfg, rs⟩ = 0) :
    Calls Tryd.prog 16 #[.agg #[.int .i64 kind, .int .i64 cfg, .slice A rs.length c]] w (RetErr 0 w) := by
  have HB0 := Lib.hid (enCells w kind cfg (.slice A rs.length c))
  have hq := refRequests_any A c rs _ (h.below (bx_low HB0.out))
  have HX : Hid (∀ W, Bx w [.int .i64 kind, .int .i64 cfg, .slice A rs.length c] 24 W → Calls Tryd.prog 32 #[.agg #[.int .i64 kind, .int .i64 cfg, .slice A rs.length c]] W (RetStr (valE ⟨kind, cfg, rs⟩) W)) := Lib.hid (fun W hW => refValue_any kind cfg rs A c W (h.below (bx_low hW)) hv)
  have HC : Hid (∀ w1, Bx w [.int .i64 kind, .int .i64 cfg, .slice A rs.length c] 24 w1 → w1.cell? ⟨w.heap.size, 0, none⟩ = some (.int .i64 kind) ∧ w1.cell? ⟨w.heap.size, 1, none⟩ = some (.int .i64 cfg) ∧ w1.cell? ⟨w.heap.size, 2, none⟩ = some (.slice A rs.length c)) :=
    Lib.hid (fun w1 hb => ⟨bx_cell hb 0 _ rfl, bx_cell hb 1 _ rfl, bx_cell hb 2 _ rfl⟩)
  have hl := (strs_ok _ hv).2.2.2
  generalize valE ⟨kind, cfg, rs⟩ = v at HX hl
  have hl2 : ¬ (2000 : Int) < (v.length : Int) := by omega
  have hways := vEn_kind _ hv
  simp only at hways
  rcases hways with ⟨rfl, rfl, h3, h4⟩ | ⟨rfl, h2, h3, rfl⟩ | ⟨rfl, rfl, rfl⟩
  · have q : ¬ (8 : Int) < (rs.length : Int) := by omega
    have h0 : vRqs [] rs = 0 := by rw [vEn_batch, if_neg (by decide), if_neg (by omega)] at hv; exact hv
    rw [h0] at hq
    have HQ := Lib.hid hq
    clear h hv h4 hq h0
    go_enter Tryd.func16, Tryd.ntmps16
    go_wp2_with fail
    refine HQ.out.mono ?_
    rintro e w' ⟨rfl, hb⟩
    have HB1 := Lib.hid (bx_on HB0.out hb)
    obtain ⟨c0, c1, c2⟩ := HC.out _ HB1.out
    clear hb
    go_wp2_with fail
    refine (HX.out _ HB1.out).mono ?_
    rintro e w2 ⟨rfl, b2⟩
    go_wp2_with fail
    go_ret
    exact ret_er rfl (bx_low (bx_on HB1.out b2))
  · have HQ : Hid (Calls Tryd.prog 34 #[.slice A 0 c] (w.alloc (.cells #[.int .i64 2, .int .i64 cfg, .slice A 0 c] 24)) (RetErr 0 (w.alloc (.cells #[.int .i64 2, .int .i64 cfg, .slice A 0 c] 24)))) := Lib.hid hq
    have q1 : ¬ cfg < 0 := by omega
    have q2 : ¬ 6 ≤ cfg := by omega
    clear h hv hq
    simp only [List.length_nil] at HX HC HB0 ⊢
    go_enter Tryd.func16, Tryd.ntmps16
    go_wp2_with fail
    refine HQ.out.mono ?_
    rintro e w' ⟨rfl, hb⟩
    have HB1 := Lib.hid (bx_on HB0.out hb)
    obtain ⟨c0, c1, c2⟩ := HC.out _ HB1.out
    clear hb
    go_wp2_with fail
    refine (HX.out _ HB1.out).mono ?_
    rintro e w2 ⟨rfl, b2⟩
    go_wp2_with fail
    go_ret
    exact ret_er rfl (bx_low (bx_on HB1.out b2))
  · have HQ : Hid (Calls Tryd.prog 34 #[.slice A 0 c] (w.alloc (.cells #[.int .i64 3, .int .i64 0, .slice A 0 c] 24)) (RetErr 0 (w.alloc (.cells #[.int .i64 3, .int .i64 0, .slice A 0 c] 24)))) := Lib.hid hq
    clear h hv hq
    simp only [List.length_nil] at HX HC HB0 ⊢
    go_enter Tryd.func16, Tryd.ntmps16
    go_wp2_with fail
    refine HQ.out.mono ?_
    rintro e w' ⟨rfl, hb⟩
    have HB1 := Lib.hid (bx_on HB0.out hb)
    obtain ⟨c0, c1, c2⟩ := HC.out _ HB1.out
    clear hb
    go_wp2_with fail
    refine (HX.out _ HB1.out).mono ?_
    rintro e w2 ⟨rfl, b2⟩
    go_wp2_with fail
    go_ret
    exact ret_er rfl (bx_low (bx_on HB1.out b2))
theorem refValid_any (kind cfg : Int) (rs : List Rq) (A : Option Addr) (c : Nat) (w : World) (h : RqIn w A c rs) :
    Calls Tryd.prog 16 #[.agg #[.int .i64 kind, .int .i64 cfg, .slice A rs.length c]] w (RetErr (vEn ⟨kind, cfg, rs⟩) w) := by
  rcases vEn_ways kind cfg rs with h1 | ⟨rfl, rfl, h8, h1⟩ | ⟨rfl, rfl, h8, h1, h2⟩ | h1
  · rw [h1]; exact refValid_bad kind cfg rs A c w h.few h1
  · rw [h1]; exact refValid_big rs A c w h8 h.few
  · rw [h1]; exact refValid_reqs rs A c w h h8 h2
  · rw [h1]; exact refValid_ok kind cfg rs A c w h h1
set_option maxRecDepth 100000 in
set_option maxHeartbeats 1000000 in
theorem refEncode_any (kind cfg : Int) (rs : List Rq) (A : Option Addr) (c : Nat) (w : World) (h : RqIn w A c rs) :
    Calls Tryd.prog 14 #[.agg #[.int .i64 kind, .int .i64 cfg, .slice A rs.length c]] w (RetStrErr (encE ⟨kind, cfg, rs⟩) (vEn ⟨kind, cfg, rs⟩) w) := by
  have B0 := Lib.hid (bx_new w [.int .i64 kind, .int .i64 cfg, .slice A rs.length c] 24)
  have HV := Lib.hid (refValid_any kind cfg rs A c _ (h.below (bx_low B0.out)))
  have HC : Hid (∀ w1, Bx w [.int .i64 kind, .int .i64 cfg, .slice A rs.length c] 24 w1 → w1.cell? ⟨w.heap.size, 0, none⟩ = some (.int .i64 kind) ∧ w1.cell? ⟨w.heap.size, 1, none⟩ = some (.int .i64 cfg) ∧ w1.cell? ⟨w.heap.size, 2, none⟩ = some (.slice A rs.length c)) :=
    Lib.hid (fun w1 hb => ⟨bx_cell hb 0 _ rfl, bx_cell hb 1 _ rfl, bx_cell hb 2 _ rfl⟩)
  by_cases h0 : vEn ⟨kind, cfg, rs⟩ = 0
  · have HY : Hid (encE ⟨kind, cfg, rs⟩ = valE ⟨kind, cfg, rs⟩) := Lib.hid (by unfold encE; rw [if_pos h0])
    have HX : Hid (∀ w1, Bx w [.int .i64 kind, .int .i64 cfg, .slice A rs.length c] 24 w1 → Calls Tryd.prog 32 #[.agg #[.int .i64 kind, .int .i64 cfg, .slice A rs.length c]] w1 (RetStr (valE ⟨kind, cfg, rs⟩) w1)) :=
      Lib.hid (fun w1 hb => refValue_any kind cfg rs A c w1 (h.below (bx_low hb)) h0)
    rw [h0] at HV ⊢
    clear h h0
    go_enter Tryd.func14, Tryd.ntmps14
    go_wp2_with fail
    refine HV.out.mono ?_
    rintro e w1 ⟨rfl, b1⟩
    have B1 := Lib.hid (bx_on B0.out b1)
    obtain ⟨c0, c1, c2⟩ := HC.out _ B1.out
    clear b1
    go_wp2_with fail
    refine (HX.out _ B1.out).mono ?_
    rintro e w2 ⟨rfl, b2⟩
    go_wp2_with fail
    go_ret2
    exact ret_se HY.out rfl (bx_low (bx_on B1.out b2))
  · have HY : Hid (encE ⟨kind, cfg, rs⟩ = []) := Lib.hid (by unfold encE; rw [if_neg h0])
    generalize vEn ⟨kind, cfg, rs⟩ = v at HV h0 ⊢
    have q1 : (v == 0) = false := by simpa using h0
    have q2 : (v != 0) = true := by simpa using h0
    clear h h0
    go_enter Tryd.func14, Tryd.ntmps14
    go_wp2_with fail
    refine HV.out.mono ?_
    rintro e w1 ⟨rfl, b1⟩
    have B1 := Lib.hid (bx_on B0.out b1)
    clear b1
    go_wp2_with fail
    go_ret2
    exact ret_se (l' := []) HY.out rfl (bx_low B1.out)
end Go.Proofs.YthmoplkleopahaaDoor
