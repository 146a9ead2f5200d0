/- The contracts of the reference on requests: Same, In, request, requests, Few. -/
import Derived.Test.YthmoplkleopahaaDoorEntC
import Derived.Test.YthmoplkleopahaaDoorBoxA
namespace Go.Proofs.YthmoplkleopahaaDoor
open Go.RowKit

set_option maxRecDepth 100000 in
set_option maxHeartbeats 1000000 in
theorem refSame_any (a b : Rq) (w : World) : Calls Tryd.prog 60 #[.agg #[.int .i64 a.client, .int .i64 a.number, .string ⟨a.op.toArray⟩], .agg #[.int .i64 b.client, .int .i64 b.number, .string ⟨b.op.toArray⟩]] w (RetBool (same a b) w) := by
  have B0 : Hid (Below w.heap.size w ((w.alloc (.cells #[.int .i64 a.client, .int .i64 a.number, .string ⟨a.op.toArray⟩] 42)).alloc (.cells #[.int .i64 b.client, .int .i64 b.number, .string ⟨b.op.toArray⟩] 42))) :=
    Lib.hid ((below_new w _).alloc (by simp) _)
  cases h1 : (a.client == b.client) with
  | true =>
    have HS : Hid (same a b = (a.number == b.number)) := Lib.hid (by unfold same; rw [h1]; rfl)
    go_enter Tryd.func60, Tryd.ntmps60
    go_wp2_with fail
    all_goals
      go_ret
      exact ret_bl (by rw [HS.out]) B0.out
  | false =>
    have HS : Hid (same a b = false) := Lib.hid (by unfold same; rw [h1]; rfl)
    go_enter Tryd.func60, Tryd.ntmps60
    go_wp2_with fail
    all_goals
      go_ret
      exact ret_bl HS.out B0.out
set_option maxRecDepth 100000 in
set_option maxHeartbeats 1000000 in
theorem refIn_any (A : Option Addr) (c : Nat) (l : List Rq) (r : Rq) (w : World) (hr : Rd w 3 A l.length (l.flatMap rqC)) (hn : l.length ≤ 9223372036854775807) :
    Calls Tryd.prog 44 #[.slice A l.length c, .agg #[.int .i64 r.client, .int .i64 r.number, .string ⟨r.op.toArray⟩]] w (RetBool (inB l r) w) := by
  have HR := Lib.hid hr
  have H0 := Lib.hid (bx_new w (rqC r) 42)
  clear hr
  go_enter Tryd.func44, Tryd.ntmps44
  go_wp2_with fail
  go_loopw [5] (fun i wr => ∃ k : Nat, i = .int .i64 k ∧ k ≤ l.length ∧ inB (l.take k) r = false ∧ Bx w (rqC r) 42 wr) (fun i _ => l.length - (intOf i).toNat)
  case atStart => exact ⟨0, rfl, by omega, rfl, H0.out⟩
  case round =>
    obtain ⟨k, rfl, hk, hno, hb⟩ := hrel
    have HN := Lib.hid hno
    clear hno
    by_cases hlt : k < l.length
    · have i0 : (0 : Int) ≤ (k : Int) := by omega
      have i1 : (k : Int) < (l.length : Int) := by omega
      obtain ⟨g, o, rfl, hg, hcc⟩ := HR.out.at rqC_len (by omega) hlt
      have HC : Hid (∀ W, Bx w (rqC r) 42 W → (W.cell? ⟨g, o + k * 3, none⟩ = some (.int .i64 l[k].client) ∧ W.cell? ⟨g, o + k * 3 + 1, none⟩ = some (.int .i64 l[k].number) ∧ W.cell? ⟨g, o + k * 3 + 2, none⟩ = some (.string ⟨l[k].op.toArray⟩)) ∧
          (W.cell? ⟨w.heap.size, 0, none⟩ = some (.int .i64 r.client) ∧ W.cell? ⟨w.heap.size, 1, none⟩ = some (.int .i64 r.number) ∧ W.cell? ⟨w.heap.size, 2, none⟩ = some (.string ⟨r.op.toArray⟩))) :=
        Lib.hid (fun W hW => ⟨⟨by have := hcc W (bx_low hW) 0 _ rfl; simpa using this, hcc W (bx_low hW) 1 _ rfl, hcc W (bx_low hW) 2 _ rfl⟩, bx_cell hW 0 _ rfl, bx_cell hW 1 _ rfl, bx_cell hW 2 _ rfl⟩)
      have HSm : Hid (∀ W, Bx w (rqC r) 42 W → Calls Tryd.prog 60 #[.agg #[.int .i64 l[k].client, .int .i64 l[k].number, .string ⟨l[k].op.toArray⟩], .agg #[.int .i64 r.client, .int .i64 r.number, .string ⟨r.op.toArray⟩]] W fun e w' => e = .returned (.bool (same l[k] r)) ∧ Bx w (rqC r) 42 w') :=
        Lib.hid (fun W hW => (refSame_any l[k] r W).mono fun _ _ ⟨a, b⟩ => ⟨a, bx_on hW b⟩)
      clear hcc
      cases hs : same l[k] r with
      | true =>
        have HY : Hid (inB l r = true) := Lib.hid (any_of_take l _ (k + 1) (by rw [any_take l _ k hlt, hs]; simp))
        rw [hs] at HSm
        clear hs
        go_wp2_with fail
        go_region_held3 (fun W => (W.cell? ⟨g, o + k * 3, none⟩ = some (.int .i64 l[k].client) ∧ W.cell? ⟨g, o + k * 3 + 1, none⟩ = some (.int .i64 l[k].number) ∧ W.cell? ⟨g, o + k * 3 + 2, none⟩ = some (.string ⟨l[k].op.toArray⟩)) ∧
          (W.cell? ⟨w.heap.size, 0, none⟩ = some (.int .i64 r.client) ∧ W.cell? ⟨w.heap.size, 1, none⟩ = some (.int .i64 r.number) ∧ W.cell? ⟨w.heap.size, 2, none⟩ = some (.string ⟨r.op.toArray⟩)))
          (first | exact HC.out _ (bx_drew ‹Bx _ _ _ _›) | exact HC.out _ ‹Bx _ _ _ _›)
          (first | (go_at_call 60; refine (HSm.out _ (by first | assumption | exact bx_drew ‹Bx _ _ _ _›)).mono ?_; rintro e w2 ⟨rfl, b2⟩))
        all_goals
          go_wp2_with fail
          go_ret
          exact ret_bl HY.out (bx_low b2)
      | false =>
        have HY : Hid (inB (l.take (k + 1)) r = false) := Lib.hid (by unfold inB; rw [any_take l _ k hlt, hs]; simpa [inB] using HN.out)
        rw [hs] at HSm
        clear hs
        go_wp2_with fail
        go_region_held3 (fun W => (W.cell? ⟨g, o + k * 3, none⟩ = some (.int .i64 l[k].client) ∧ W.cell? ⟨g, o + k * 3 + 1, none⟩ = some (.int .i64 l[k].number) ∧ W.cell? ⟨g, o + k * 3 + 2, none⟩ = some (.string ⟨l[k].op.toArray⟩)) ∧
          (W.cell? ⟨w.heap.size, 0, none⟩ = some (.int .i64 r.client) ∧ W.cell? ⟨w.heap.size, 1, none⟩ = some (.int .i64 r.number) ∧ W.cell? ⟨w.heap.size, 2, none⟩ = some (.string ⟨r.op.toArray⟩)))
          (first | exact HC.out _ (bx_drew ‹Bx _ _ _ _›) | exact HC.out _ ‹Bx _ _ _ _›)
          (first | (go_at_call 60; refine (HSm.out _ (by first | assumption | exact bx_drew ‹Bx _ _ _ _›)).mono ?_; rintro e w2 ⟨rfl, b2⟩))
        all_goals
          have B2 := Lib.hid b2
          clear b2
          go_wp2_with fail
          go_roundw
          case rel => exact ⟨k + 1, by go_num, by omega, HY.out, B2.out⟩
          case measure => simp [intOf]; omega
    · have HY : Hid (inB l r = false) := Lib.hid (by have := HN.out; rwa [List.take_of_length_le (by omega)] at this)
      go_wp2_with fail
      go_ret
      exact ret_bl HY.out (bx_low hb)
/-- the error of a request by itself -/
def vOne (r : Rq) : Int := if r.client < 0 ∨ 6 ≤ r.client ∨ r.number < 1 ∨ 1000000 < r.number then 7 else if r.op = [] then 9 else if 200 < r.op.length then 3 else 0
theorem vRq_one (done : List Rq) (r : Rq) : vRq done r = if vOne r ≠ 0 then vOne r else if inB done r = true then 5 else 0 := by
  unfold vRq vOne
  split
  · simp
  · split
    · simp
    · split <;> simp
set_option maxRecDepth 100000 in
set_option maxHeartbeats 1000000 in
theorem refRequest_any (r : Rq) (w : World) (hl : r.op.length ≤ 9223372036854775807) : Calls Tryd.prog 47 #[.agg #[.int .i64 r.client, .int .i64 r.number, .string ⟨r.op.toArray⟩]] w (RetErr (vOne r) w) := by
  have B0 := Lib.hid (below_new w (.cells #[.int .i64 r.client, .int .i64 r.number, .string ⟨r.op.toArray⟩] 42))
  by_cases hbad : r.client < 0 ∨ 6 ≤ r.client ∨ r.number < 1 ∨ 1000000 < r.number
  · have HY : Hid (vOne r = 7) := Lib.hid (by unfold vOne; rw [if_pos hbad])
    rcases hbad with h | h | h | h
    all_goals
      go_enter Tryd.func47, Tryd.ntmps47
      go_wp2_with fail
      all_goals
        go_ret
        exact ret_er HY.out B0.out
  · have q0 : ¬ r.client < 0 := by omega
    have q1 : ¬ 6 ≤ r.client := by omega
    have q2 : ¬ r.number < 1 := by omega
    have q3 : ¬ 1000000 < r.number := by omega
    have HY0 : Hid (vOne r = if r.op = [] then 9 else if 200 < r.op.length then 3 else 0) := Lib.hid (by unfold vOne; rw [if_neg hbad])
    clear hbad
    by_cases h2 : r.op = []
    · have HY : Hid (vOne r = 9) := Lib.hid (by rw [HY0.out, if_pos h2])
      have hemp : r.op.isEmpty = true := by rw [h2]; rfl
      clear h2
      go_enter Tryd.func47, Tryd.ntmps47
      go_wp2_with fail
      go_ret
      exact ret_er HY.out B0.out
    · have hemp : r.op.isEmpty = false := by simpa using h2
      by_cases h3 : 200 < r.op.length
      · have HY : Hid (vOne r = 3) := Lib.hid (by rw [HY0.out, if_neg h2, if_pos h3])
        clear h2
        go_enter Tryd.func47, Tryd.ntmps47
        go_wp2_with fail
        go_ret
        exact ret_er HY.out B0.out
      · have HY : Hid (vOne r = 0) := Lib.hid (by rw [HY0.out, if_neg h2, if_neg h3])
        clear h2
        go_enter Tryd.func47, Tryd.ntmps47
        go_wp2_with fail
        go_ret
        exact ret_er HY.out B0.out
def fewB (l : List Rq) : Bool := (l.all fun r => decide (r.op.length ≤ 250)) && decide (l.length ≤ 30)
theorem few_get {l : List Rq} (h : fewB l = true) : l.length ≤ 30 ∧ ∀ r ∈ l, r.op.length ≤ 250 := by
  unfold fewB at h
  simp only [Bool.and_eq_true, decide_eq_true_eq, List.all_eq_true] at h
  exact ⟨h.2, h.1⟩
set_option maxRecDepth 100000 in
set_option maxHeartbeats 1000000 in
theorem few_any (A : Option Addr) (c : Nat) (l : List Rq) (w : World) (h : RqIn w A c l) : Calls Tryd.prog 12 #[.slice A l.length c] w fun e w' => e = .returned (.bool (fewB l)) ∧ w = w' := by
  have HR := Lib.hid h.rd
  have HOp := Lib.hid h.op
  have hf := h.few
  clear h
  go_enter Tryd.func12, Tryd.ntmps12
  go_wp2_with fail
  go_loop [3] (fun i => ∃ k : Nat, i = .int .i64 k ∧ k ≤ l.length ∧ ((l.take k).all fun r => decide (r.op.length ≤ 250)) = true) (fun i => l.length - (intOf i).toNat)
  case atStart => exact ⟨0, rfl, by omega, rfl⟩
  case round =>
    obtain ⟨k, rfl, hk, hall⟩ := hrel
    have HA := Lib.hid hall
    clear hall
    by_cases hlt : k < l.length
    · have i0 : (0 : Int) ≤ (k : Int) := by omega
      have i1 : (k : Int) < (l.length : Int) := by omega
      obtain ⟨g, o, rfl, hg, hcc⟩ := HR.out.at rqC_len (by omega) hlt
      have a2 := hcc w (Below.refl _ _) 2 _ rfl
      have hop := HOp.out l[k] (List.getElem_mem hlt)
      clear hcc
      by_cases hbig : 250 < l[k].op.length
      · have HY : Hid (fewB l = false) := Lib.hid (by
          unfold fewB
          rw [Bool.and_eq_false_iff]
          left
          rw [List.all_eq_false]
          exact ⟨l[k], List.getElem_mem hlt, by simpa using hbig⟩)
        go_wp2_with fail
        go_ret
        exact ⟨ret_bool HY.out.symm, rfl⟩
      · have HY : Hid (((l.take (k + 1)).all fun r => decide (r.op.length ≤ 250)) = true) := Lib.hid (by
          rw [List.take_succ_eq_append_getElem hlt, List.all_append, HA.out]
          simp; omega)
        go_wp2_with fail
        go_round
        case rel => exact ⟨k + 1, by go_num, by omega, HY.out⟩
        case measure => simp [intOf]; omega
    · have HY : Hid (fewB l = decide ((l.length : Int) ≤ 30)) := Lib.hid (by
        have := HA.out
        rw [List.take_of_length_le (by omega)] at this
        unfold fewB
        rw [this, Bool.true_and]
        have e : (l.length ≤ 30) = ((l.length : Int) ≤ 30) := by apply propext; omega
        simp only [e])
      go_wp2_with fail
      all_goals
        go_ret
        exact ⟨ret_bool (by rw [HY.out]), rfl⟩
end Go.Proofs.YthmoplkleopahaaDoor
