/- The law on Valid and Encode. -/
import Derived.Test.YthmoplkleopahaaDoorLawA
namespace Go.Proofs.YthmoplkleopahaaDoor
open Go.RowKit

theorem few_ok {l : List Rq} (h : fewB l = true) (hi : ∀ r ∈ l, I64 r.client ∧ I64 r.number) : l.length ≤ 1000 ∧ RqsOk l :=
  ⟨by have := (few_get h).1; omega, fun r hr => ⟨(hi r hr).1, (hi r hr).2, by have := (few_get h).2 r hr; omega⟩⟩
set_option maxRecDepth 100000 in
set_option maxHeartbeats 2000000 in
theorem lawValid (kind cfg : Int) (rs : List Rq) (A : Option Addr) (c : Nat) (w : World) (he : Env w) (h : RqIn w A c rs) (hi : I64 cfg) (hr : ∀ r ∈ rs, I64 r.client ∧ I64 r.number) :
    Calls Tryd.prog 3 #[.agg #[.int .i64 kind, .int .i64 cfg, .slice A rs.length c]] w (RetBool true w) := by
  have HB0 := Lib.hid (bx_new w [.int .i64 kind, .int .i64 cfg, .slice A rs.length c] 24)
  have HA := Lib.hid (fun (W : World) (h : Env W) => awake_any W h)
  have HE : Hid (∀ W, Bx w [.int .i64 kind, .int .i64 cfg, .slice A rs.length c] 24 W → Env W) := Lib.hid (fun W hW => he.below (bx_low hW))
  have HC : Hid (∀ w1, Bx w [.int .i64 kind, .int .i64 cfg, .slice A rs.length c] 24 w1 → w1.cell? ⟨w.heap.size, 0, none⟩ = some (.int .i64 kind) ∧ w1.cell? ⟨w.heap.size, 1, none⟩ = some (.int .i64 cfg) ∧ w1.cell? ⟨w.heap.size, 2, none⟩ = some (.slice A rs.length c)) :=
    Lib.hid (fun w1 hb => ⟨bx_cell hb 0 _ rfl, bx_cell hb 1 _ rfl, bx_cell hb 2 _ rfl⟩)
  have HF : Hid (∀ W, Bx w [.int .i64 kind, .int .i64 cfg, .slice A rs.length c] 24 W → Calls Tryd.prog 12 #[.slice A rs.length c] W fun e w' => e = .returned (.bool (fewB rs)) ∧ W = w') := Lib.hid (fun W hW => few_any A c rs W (h.below (bx_low hW)))
  cases hfew : fewB rs with
  | false =>
    rw [hfew] at HF
    clear h hi hr hfew he
    go_enter Tryd.func3, Tryd.ntmps3
    go_wp2_with fail
    refine (HA.out _ (HE.out _ HB0.out)).mono ?_
    rintro e w1 ⟨rfl, b1⟩
    have HB1 := Lib.hid (bx_on HB0.out b1)
    obtain ⟨c0, c1, c2⟩ := HC.out _ HB1.out
    clear b1
    go_wp2_with fail
    refine (HF.out _ HB1.out).mono ?_
    rintro e w2 ⟨rfl, rfl⟩
    go_wp2_with fail
    refine (HA.out _ (HE.out _ HB1.out)).mono ?_
    rintro e w3 ⟨rfl, b3⟩
    go_wp2_with fail
    go_ret
    exact ret_bl rfl (bx_low (bx_on HB1.out b3))
  | true =>
    obtain ⟨hn, hok⟩ := few_ok hfew hr
    have HG : Hid (∀ W, Bx w [.int .i64 kind, .int .i64 cfg, .slice A rs.length c] 24 W → Calls Tryd.prog 13 #[.agg #[.int .i64 kind, .int .i64 cfg, .slice A rs.length c]] W (RetStrErr (encE ⟨kind, cfg, rs⟩) (vEn ⟨kind, cfg, rs⟩) W)) := Lib.hid (fun W hW => enEncode_any kind cfg rs A c W (HE.out W hW) (h.below (bx_low hW)) hn hok hi)
    have HH : Hid (∀ W, Bx w [.int .i64 kind, .int .i64 cfg, .slice A rs.length c] 24 W → Calls Tryd.prog 14 #[.agg #[.int .i64 kind, .int .i64 cfg, .slice A rs.length c]] W (RetStrErr (encE ⟨kind, cfg, rs⟩) (vEn ⟨kind, cfg, rs⟩) W)) := Lib.hid (fun W hW => refEncode_any kind cfg rs A c W (h.below (bx_low hW)))
    have HV : Hid (∀ W, Bx w [.int .i64 kind, .int .i64 cfg, .slice A rs.length c] 24 W → Calls Tryd.prog 15 #[.agg #[.int .i64 kind, .int .i64 cfg, .slice A rs.length c]] W fun e w' => e = .returned (.int .i64 (vEn ⟨kind, cfg, rs⟩)) ∧ Bx w [.int .i64 kind, .int .i64 cfg, .slice A rs.length c] 24 w') := Lib.hid (fun W hW => (enValid_any kind cfg rs A c W (h.below (bx_low hW))).mono fun _ _ ⟨a, b⟩ => ⟨a, bx_on hW b⟩)
    have HU : Hid (∀ W, Bx w [.int .i64 kind, .int .i64 cfg, .slice A rs.length c] 24 W → Calls Tryd.prog 16 #[.agg #[.int .i64 kind, .int .i64 cfg, .slice A rs.length c]] W fun e w' => e = .returned (.int .i64 (vEn ⟨kind, cfg, rs⟩)) ∧ Bx w [.int .i64 kind, .int .i64 cfg, .slice A rs.length c] 24 w') := Lib.hid (fun W hW => (refValid_any kind cfg rs A c W (h.below (bx_low hW))).mono fun _ _ ⟨a, b⟩ => ⟨a, bx_on hW b⟩)
    rw [hfew] at HF
    generalize vEn ⟨kind, cfg, rs⟩ = v at HG HH HV HU
    generalize encE ⟨kind, cfg, rs⟩ = s at HG HH
    clear h hi hr hfew he hn hok
    go_enter Tryd.func3, Tryd.ntmps3
    go_wp2_with fail
    refine (HA.out _ (HE.out _ HB0.out)).mono ?_
    rintro e w1 ⟨rfl, b1⟩
    have HB1 := Lib.hid (bx_on HB0.out b1)
    obtain ⟨c0, c1, c2⟩ := HC.out _ HB1.out
    clear b1
    go_wp2_with fail
    refine (HF.out _ HB1.out).mono ?_
    rintro e w2 ⟨rfl, rfl⟩
    go_wp2_with fail
    refine (HG.out _ HB1.out).mono ?_
    rintro e w3 ⟨rfl, b3⟩
    have HB3 := Lib.hid (bx_on HB1.out b3)
    clear c0 c1 c2 b3
    obtain ⟨c0, c1, c2⟩ := HC.out _ HB3.out
    go_wp2_with fail
    refine (HH.out _ HB3.out).mono ?_
    rintro e w4 ⟨rfl, b4⟩
    have hb4 := bx_on HB3.out b4
    clear c0 c1 c2 b4
    obtain ⟨c0, c1, c2⟩ := HC.out _ hb4
    go_wp2_with fail
    go_region_held3 (fun w1 => w1.cell? ⟨w.heap.size, 0, none⟩ = some (.int .i64 kind) ∧ w1.cell? ⟨w.heap.size, 1, none⟩ = some (.int .i64 cfg) ∧ w1.cell? ⟨w.heap.size, 2, none⟩ = some (.slice A rs.length c))
      (first | exact HC.out _ (bx_drew ‹Bx _ _ _ _›) | exact HC.out _ ‹Bx _ _ _ _›)
      (first
        | (go_at_call 15; refine (HV.out _ (by first | assumption | exact bx_drew ‹Bx _ _ _ _›)).mono ?_; rintro e w5 ⟨rfl, b5⟩)
        | (go_at_call 16; refine (HU.out _ (by first | assumption | exact bx_drew ‹Bx _ _ _ _›)).mono ?_; rintro e w5 ⟨rfl, b5⟩))
    all_goals
      go_wp2_with fail
      go_ret
      exact ret_bl (by simp) (bx_low b5)
end Go.Proofs.YthmoplkleopahaaDoor
