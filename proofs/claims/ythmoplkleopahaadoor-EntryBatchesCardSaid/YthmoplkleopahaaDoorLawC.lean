/- The law on Decode of the value of a valid entry. -/
import Derived.Test.YthmoplkleopahaaDoorLawB
namespace Go.Proofs.YthmoplkleopahaaDoor
open Go.RowKit

theorem enEq_self (k c : Int) (l : List Rq) : enEq k c l k c l = true := by simp [enEq]
/-- two boxes of entries -/
structure Two (w : World) (b1 b2 : Nat) (x0 x1 x2 y0 y1 y2 : Value) : Prop where
  x : w.cell? ⟨b1, 0, none⟩ = some x0 ∧ w.cell? ⟨b1, 1, none⟩ = some x1 ∧ w.cell? ⟨b1, 2, none⟩ = some x2
  y : w.cell? ⟨b2, 0, none⟩ = some y0 ∧ w.cell? ⟨b2, 1, none⟩ = some y1 ∧ w.cell? ⟨b2, 2, none⟩ = some y2
set_option maxRecDepth 100000 in
set_option maxHeartbeats 2000000 in
theorem lawRestored (kind cfg : Int) (rs : List Rq) (A : Option Addr) (c : Nat) (w : World) (he : Env w) (h : RqIn w A c rs) (hi : I64 cfg) (hr : ∀ r ∈ rs, I64 r.client ∧ I64 r.number) :
    Calls Tryd.prog 4 #[.agg #[.int .i64 kind, .int .i64 cfg, .slice A rs.length c]] w (RetBool true w) := by
  have HB0 := Lib.hid (bx_new w [.int .i64 kind, .int .i64 cfg, .slice A rs.length c] 24)
  have HA := Lib.hid (fun (W : World) (h : Env W) => awake_any W h)
  have HE : Hid (∀ W, Bx w [.int .i64 kind, .int .i64 cfg, .slice A rs.length c] 24 W → Env W) := Lib.hid (fun W hW => he.below (bx_low hW))
  have HC : Hid (∀ w1, Bx w [.int .i64 kind, .int .i64 cfg, .slice A rs.length c] 24 w1 → w1.cell? ⟨w.heap.size, 0, none⟩ = some (.int .i64 kind) ∧ w1.cell? ⟨w.heap.size, 1, none⟩ = some (.int .i64 cfg) ∧ w1.cell? ⟨w.heap.size, 2, none⟩ = some (.slice A rs.length c)) :=
    Lib.hid (fun w1 hb => ⟨bx_cell hb 0 _ rfl, bx_cell hb 1 _ rfl, bx_cell hb 2 _ rfl⟩)
  have HF : Hid (∀ W, Bx w [.int .i64 kind, .int .i64 cfg, .slice A rs.length c] 24 W → Calls Tryd.prog 12 #[.slice A rs.length c] W fun e w' => e = .returned (.bool (fewB rs)) ∧ W = w') := Lib.hid (fun W hW => few_any A c rs W (h.below (bx_low hW)))
  have HU : Hid (∀ W, Bx w [.int .i64 kind, .int .i64 cfg, .slice A rs.length c] 24 W → Calls Tryd.prog 16 #[.agg #[.int .i64 kind, .int .i64 cfg, .slice A rs.length c]] W fun e w' => e = .returned (.int .i64 (vEn ⟨kind, cfg, rs⟩)) ∧ Bx w [.int .i64 kind, .int .i64 cfg, .slice A rs.length c] 24 w') := Lib.hid (fun W hW => (refValid_any kind cfg rs A c W (h.below (bx_low hW))).mono fun _ _ ⟨a, b⟩ => ⟨a, bx_on hW b⟩)
  cases hfew : fewB rs with
  | false =>
    rw [hfew] at HF
    clear h hi hr hfew he HU
    go_enter Tryd.func4, Tryd.ntmps4
    go_wp2_with fail
    refine (HA.out _ (HE.out _ HB0.out)).mono ?_
    rintro e w1 ⟨rfl, b1⟩
    have HB1 := Lib.hid (bx_on HB0.out b1)
    obtain ⟨c0, c1, c2⟩ := HC.out _ HB1.out
    clear b1
    go_wp2_with fail
    refine (HF.out _ HB1.out).mono ?_
    rintro e w2 ⟨rfl, rfl⟩
    go_wp2_with fail
    refine (HA.out _ (HE.out _ HB1.out)).mono ?_
    rintro e w3 ⟨rfl, b3⟩
    go_wp2_with fail
    go_ret
    exact ret_bl rfl (bx_low (bx_on HB1.out b3))
  | true =>
    obtain ⟨hn, hok⟩ := few_ok hfew hr
    rw [hfew] at HF
    by_cases hv : vEn ⟨kind, cfg, rs⟩ = 0
    · have hvl := (strs_ok ⟨kind, cfg, rs⟩ hv).2.2.2
      have HG : Hid (∀ W, Bx w [.int .i64 kind, .int .i64 cfg, .slice A rs.length c] 24 W → Calls Tryd.prog 13 #[.agg #[.int .i64 kind, .int .i64 cfg, .slice A rs.length c]] W (RetStrErr (valE ⟨kind, cfg, rs⟩) 0 W)) := Lib.hid (fun W hW => by
        have h9 := enEncode_any kind cfg rs A c W (HE.out W hW) (h.below (bx_low hW)) hn hok hi
        unfold encE at h9
        rw [hv, if_pos rfl] at h9
        exact h9)
      have HD : Hid (∀ W, Bx w [.int .i64 kind, .int .i64 cfg, .slice A rs.length c] 24 W → Calls Tryd.prog 17 #[.string ⟨(valE ⟨kind, cfg, rs⟩).toArray⟩] W fun e w' => ∃ A2 c2, (e = .returned (.tuple #[.agg #[.int .i64 kind, .int .i64 cfg, .slice A2 rs.length c2], .int .i64 0]) ∧ RqIn w' A2 c2 rs) ∧ Below W.heap.size W w') := Lib.hid (fun W hW => decode_some (valE ⟨kind, cfg, rs⟩) W (HE.out W hW) (by omega) ⟨kind, cfg, rs⟩ (decE_val _ hv))
      have HQ : Hid (∀ W, Bx w [.int .i64 kind, .int .i64 cfg, .slice A rs.length c] 24 W → RqIn W A c rs) := Lib.hid (fun W hW => h.below (bx_low hW))
      rw [hv] at HU
      generalize valE ⟨kind, cfg, rs⟩ = s at HG HD
      clear h hi hr hfew he hn hok hv hvl
      go_enter Tryd.func4, Tryd.ntmps4
      go_wp2_with fail
      refine (HA.out _ (HE.out _ HB0.out)).mono ?_
      rintro e w1 ⟨rfl, b1⟩
      have HB1 := Lib.hid (bx_on HB0.out b1)
      obtain ⟨c0, c1, c2⟩ := HC.out _ HB1.out
      clear b1
      go_wp2_with fail
      refine (HF.out _ HB1.out).mono ?_
      rintro e w2 ⟨rfl, rfl⟩
      go_wp2_with fail
      refine (HU.out _ HB1.out).mono ?_
      rintro e w3 ⟨rfl, b3⟩
      have HB3 := Lib.hid b3
      clear b3 c0 c1 c2
      obtain ⟨c0, c1, c2⟩ := HC.out _ HB3.out
      go_wp2_with fail
      refine (HG.out _ HB3.out).mono ?_
      rintro e w4 ⟨rfl, b4⟩
      have HB4 := Lib.hid (bx_on HB3.out b4)
      clear b4
      go_wp2_with fail
      refine (HD.out _ HB4.out).mono ?_
      rintro e w5 ⟨A2, c5, ⟨rfl, q5⟩, b5⟩
      have HB5 := Lib.hid (bx_on HB4.out b5)
      have HB6 := Lib.hid (bx_alloc HB5.out (.cells #[.int .i64 kind, .int .i64 cfg, .slice A2 rs.length c5] 24))
      have HX : Hid (∀ W, Bx w5 [.int .i64 kind, .int .i64 cfg, .slice A2 rs.length c5] 24 W → Two W w.heap.size w5.heap.size (.int .i64 kind) (.int .i64 cfg) (.slice A rs.length c) (.int .i64 kind) (.int .i64 cfg) (.slice A2 rs.length c5)) :=
        Lib.hid (fun W hW => ⟨HC.out W (bx_on HB5.out (bx_low hW)), bx_cell hW 0 _ rfl, bx_cell hW 1 _ rfl, bx_cell hW 2 _ rfl⟩)
      have HEq : Hid (∀ W, Bx w5 [.int .i64 kind, .int .i64 cfg, .slice A2 rs.length c5] 24 W → Calls Tryd.prog 18 #[.agg #[.int .i64 kind, .int .i64 cfg, .slice A rs.length c], .agg #[.int .i64 kind, .int .i64 cfg, .slice A2 rs.length c5]] W fun e w' => e = .returned (.bool true) ∧ Bx w [.int .i64 kind, .int .i64 cfg, .slice A rs.length c] 24 w') :=
        Lib.hid (fun W hW => (equal_any kind cfg kind cfg A A2 c c5 rs rs W (HQ.out W (bx_on HB5.out (bx_low hW))) (q5.below (bx_low hW))).mono fun _ _ ⟨a, b⟩ => ⟨by rw [a, enEq_self], bx_on (bx_on HB5.out (bx_low hW)) b⟩)
      have H0 : Bx w5 [.int .i64 kind, .int .i64 cfg, .slice A2 rs.length c5] 24 (w5.alloc (.cells #[.int .i64 kind, .int .i64 cfg, .slice A2 rs.length c5] 24)) := bx_new w5 _ _
      clear b5 q5 c0 c1 c2
      obtain ⟨⟨c0, c1, c2⟩, d0, d1, d2⟩ := HX.out _ H0
      go_wp2_with fail
      refine (HEq.out _ H0).mono ?_
      rintro e w6 ⟨rfl, b6⟩
      go_wp2_with fail
      go_ret
      exact ret_bl rfl (bx_low b6)
    · generalize vEn ⟨kind, cfg, rs⟩ = v at HU hv
      have hv1 : (v == 0) = false := by simpa using hv
      have hv2 : (v != 0) = true := by simpa using hv
      clear h hi hr hfew he hn hok hv
      go_enter Tryd.func4, Tryd.ntmps4
      go_wp2_with fail
      refine (HA.out _ (HE.out _ HB0.out)).mono ?_
      rintro e w1 ⟨rfl, b1⟩
      have HB1 := Lib.hid (bx_on HB0.out b1)
      obtain ⟨c0, c1, c2⟩ := HC.out _ HB1.out
      clear b1
      go_wp2_with fail
      refine (HF.out _ HB1.out).mono ?_
      rintro e w2 ⟨rfl, rfl⟩
      go_wp2_with fail
      refine (HU.out _ HB1.out).mono ?_
      rintro e w3 ⟨rfl, b3⟩
      go_wp2_with fail
      refine (HA.out _ (HE.out _ b3)).mono ?_
      rintro e w4 ⟨rfl, b4⟩
      go_wp2_with fail
      go_ret
      exact ret_bl rfl (bx_low (bx_on b3 b4))
end Go.Proofs.YthmoplkleopahaaDoor
