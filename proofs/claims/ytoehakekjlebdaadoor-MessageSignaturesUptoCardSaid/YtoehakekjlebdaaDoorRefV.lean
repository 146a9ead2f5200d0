/- The contracts of the reference's small checks. -/
import Derived.Test.YtoehakekjlebdaaDoorValD
namespace Go.Proofs.YtoehakekjlebdaaDoor
open Go.RowKit

set_option maxHeartbeats 400000 in
theorem refNumber_any (n : Int) (w : World) : Calls Tryd.prog 27 #[.int .i64 n] w fun e w' => e = .returned (.bool (num n)) ∧ w = w' := by
  by_cases h0 : 0 ≤ n
  · by_cases h1 : n ≤ 2147483647
    · have H := Lib.hid (num_yes h0 h1)
      go_enter Tryd.func27, Tryd.ntmps27
      go_wp2_with fail
      go_ret
      exact ⟨congrArg (fun b => Ending.returned (.bool b)) H.out.symm, rfl⟩
    · have H := Lib.hid (num_no (n := n) (by omega))
      go_enter Tryd.func27, Tryd.ntmps27
      go_wp2_with fail
      go_ret
      exact ⟨congrArg (fun b => Ending.returned (.bool b)) H.out.symm, rfl⟩
  · have H := Lib.hid (num_no (n := n) (by omega))
    go_enter Tryd.func27, Tryd.ntmps27
    go_wp2_with fail
    go_ret
    exact ⟨congrArg (fun b => Ending.returned (.bool b)) H.out.symm, rfl⟩
theorem sgC_lenW (x : Sg) : (sgC x).length = 6 := rfl
theorem all_take_no {α : Type} (l : List α) (p : α → Bool) (k : Nat) (h : k < l.length) (hp : p l[k] = false) : l.all p = false := by
  rw [Bool.eq_false_iff]
  intro hc
  have := List.all_eq_true.1 hc l[k] (List.getElem_mem h)
  rw [hp] at this; simp at this
set_option maxRecDepth 100000 in
set_option maxHeartbeats 2000000 in
theorem short_any (A : Option Addr) (c : Nat) (l : List Sg) (w : World) (hr : Rd w 6 A l.length (l.flatMap sgC)) (hn : l.length ≤ 1099511627776) :
    Calls Tryd.prog 50 #[.slice A l.length c] w fun e w' => e = .returned (.bool (certShort l)) ∧ w = w' := by
  have HR := Lib.hid hr
  clear hr
  go_enter Tryd.func50, Tryd.ntmps50
  go_wp2_with fail
  go_loop [3] (fun i => ∃ k : Nat, i = .int .i64 k ∧ k ≤ l.length ∧ Hid ((l.take k).all sgShort = true)) (fun i => l.length - (intOf i).toNat)
  case atStart => exact ⟨0, rfl, by omega, Lib.hid (by simp)⟩
  case round =>
    obtain ⟨k, rfl, hk, HA⟩ := hrel
    by_cases hlt : k < l.length
    · have i0' : (0 : Int) ≤ (k : Int) := by omega
      have i1 : (k : Int) < (l.length : Int) := by omega
      obtain ⟨b, off, rfl, hg, hcc⟩ := HR.out.at sgC_lenW (by omega) hlt (w' := w)
      obtain ⟨x, hx⟩ : ∃ x, x = l[k] := ⟨_, rfl⟩
      have HX := Lib.hid hx.symm
      clear hx
      have a4 : w.cell? ⟨b, off + k * 6 + 4, none⟩ = some (.string ⟨x.digest.toArray⟩) := hcc w (Below.refl _ _) 4 _ (by rw [HX.out]; rfl)
      have a5 : w.cell? ⟨b, off + k * 6 + 5, none⟩ = some (.string ⟨x.sig.toArray⟩) := hcc w (Below.refl _ _) 5 _ (by rw [HX.out]; rfl)
      have HT := Lib.hid (all_take l sgShort k hlt)
      have HN : Hid (sgShort x = false → certShort l = false) := Lib.hid (fun h => by unfold certShort; rw [all_take_no l sgShort k hlt (by rw [HX.out]; exact h)]; rfl)
      clear hcc
      by_cases h1 : x.digest.length ≤ 64
      · by_cases h2 : x.sig.length ≤ 64
        · have HZ : Hid (sgShort x = true) := Lib.hid (by simp [sgShort, h1, h2])
          go_wp2_with fail
          go_round
          case rel => exact ⟨k + 1, by go_num, by omega, Lib.hid (by rw [HT.out, HA.out, HX.out, HZ.out]; rfl)⟩
          case measure => simp [intOf]; omega
        · have HZ : Hid (sgShort x = false) := Lib.hid (by simp [sgShort, h1, h2])
          go_wp2_with fail
          go_ret
          exact ⟨congrArg (fun b => Ending.returned (.bool b)) (HN.out HZ.out).symm, rfl⟩
      · have HZ : Hid (sgShort x = false) := Lib.hid (by simp [sgShort, h1])
        go_wp2_with fail
        go_ret
        exact ⟨congrArg (fun b => Ending.returned (.bool b)) (HN.out HZ.out).symm, rfl⟩
    · obtain rfl : k = l.length := by omega
      have HE : Hid (decide ((l.length : Int) ≤ 12) = certShort l) := Lib.hid (by
        have := HA.out
        rw [List.take_length] at this
        unfold certShort
        rw [this, Bool.true_and, Bool.eq_iff_iff]; simp; omega)
      go_wp2_with fail
      go_ret
      exact ⟨congrArg (fun b => Ending.returned (.bool b)) HE.out, rfl⟩
theorem short_one (x : Sg) (w w0 : World) (hb : Below w0.heap.size w0 w) {h : Nat} (hh : w.heap.size = h) :
    Calls Tryd.prog 50 #[.slice (some ⟨h, 0, none⟩) 1 1] (w.alloc (.cells #[.int .i64 x.server, .int .i64 x.kind, .int .i64 x.view, .int .i64 x.slot, .string ⟨x.digest.toArray⟩, .string ⟨x.sig.toArray⟩] 23)) fun e w' => e = .returned (.bool (sgShort x)) ∧ Below w0.heap.size w0 w' := by
  subst hh
  have h1 := short_any (some ⟨w.heap.size, 0, none⟩) 1 [x] (w.alloc (.cells (sgC x).toArray 23)) (by simpa using rd_new w 6 1 (sgC x) 23 rfl) (by simp)
  refine Calls.mono h1 fun e w' ⟨he, hw⟩ => ⟨?_, ?_⟩
  · rw [he]; simp [certShort]
  · subst hw; exact hb.alloc hb.size _
set_option maxRecDepth 100000 in
set_option maxHeartbeats 4000000 in
theorem statusRange_any (s : St) (w : World) : Calls Tryd.prog 47 #[.agg #[.int .i64 s.server, .int .i64 s.view, .int .i64 s.length, .int .i64 s.lockView, .string ⟨s.lock.toArray⟩, .slice s.cert.a s.cert.l.length s.cert.c, .int .i64 s.signed.server, .int .i64 s.signed.kind, .int .i64 s.signed.view, .int .i64 s.signed.slot, .string ⟨s.signed.digest.toArray⟩, .string ⟨s.signed.sig.toArray⟩]] w (RetBool (stRange s) w) := by
  have HN := Lib.hid (fun n w' => refNumber_any n w')
  go_enter Tryd.func47, Tryd.ntmps47
  go_wp2_with (go_at_call 27; refine (HN.out _ _).mono ?_; rintro e w' ⟨rfl, rfl⟩)
  all_goals
    go_ret
    exact ret_bl (by first | (simp [stRange, *]; done) | (simp [stRange, *]; intros; omega)) (below_new _ _)
set_option maxRecDepth 100000 in
set_option maxHeartbeats 4000000 in
theorem statusShort_any (s : St) (w : World) (hr : Rd w 6 s.cert.a s.cert.l.length (s.cert.l.flatMap sgC)) (hn : s.cert.l.length ≤ 1099511627776) : Calls Tryd.prog 48 #[.agg #[.int .i64 s.server, .int .i64 s.view, .int .i64 s.length, .int .i64 s.lockView, .string ⟨s.lock.toArray⟩, .slice s.cert.a s.cert.l.length s.cert.c, .int .i64 s.signed.server, .int .i64 s.signed.kind, .int .i64 s.signed.view, .int .i64 s.signed.slot, .string ⟨s.signed.digest.toArray⟩, .string ⟨s.signed.sig.toArray⟩]] w (RetBool (stShort s) w) := by
  have HS : Hid (∀ w1, Below w.heap.size w w1 → Calls Tryd.prog 50 #[.slice s.cert.a s.cert.l.length s.cert.c] w1 fun e w' => e = .returned (.bool (certShort s.cert.l)) ∧ w1 = w') := Lib.hid (fun w1 hb => short_any _ _ _ w1 (hr.below hb) hn)
  have HO := Lib.hid (fun w1 hb h hh => short_one s.signed w1 w hb (h := h) hh)
  have HB := Lib.hid (below_new w (.cells #[.int .i64 s.server, .int .i64 s.view, .int .i64 s.length, .int .i64 s.lockView, .string ⟨s.lock.toArray⟩, .slice s.cert.a s.cert.l.length s.cert.c, .int .i64 s.signed.server, .int .i64 s.signed.kind, .int .i64 s.signed.view, .int .i64 s.signed.slot, .string ⟨s.signed.digest.toArray⟩, .string ⟨s.signed.sig.toArray⟩] 52))
  clear hr
  by_cases h1 : s.lock.length ≤ 2000
  · have HZ : Hid (stShort s = (certShort s.cert.l && sgShort s.signed)) := Lib.hid (by simp [stShort, h1])
    cases h2 : certShort s.cert.l with
    | true =>
      rw [h2] at HS HZ
      clear h2
      go_enter Tryd.func48, Tryd.ntmps48
      go_wp2_with fail
      refine (HS.out _ HB.out).mono ?_
      rintro e w' ⟨rfl, rfl⟩
      go_wp2_with fail
      refine (HO.out _ HB.out _ (by simp)).mono ?_
      rintro e w2 ⟨rfl, b2⟩
      have B2 := Lib.hid b2
      clear b2
      go_wp2_with fail
      go_ret
      exact ret_bl (by rw [HZ.out]; rfl) B2.out
    | false =>
      rw [h2] at HS HZ
      clear h2
      go_enter Tryd.func48, Tryd.ntmps48
      go_wp2_with fail
      refine (HS.out _ HB.out).mono ?_
      rintro e w' ⟨rfl, rfl⟩
      go_wp2_with fail
      go_ret
      exact ret_bl (by rw [HZ.out]; rfl) HB.out
  · have HZ : Hid (stShort s = false) := Lib.hid (by simp [stShort, h1])
    go_enter Tryd.func48, Tryd.ntmps48
    go_wp2_with fail
    go_ret
    exact ret_bl HZ.out HB.out
set_option maxRecDepth 100000 in
set_option maxHeartbeats 4000000 in
theorem entryShort_any (d : De) (w : World) (hr : Rd w 6 d.cert.a d.cert.l.length (d.cert.l.flatMap sgC)) (hn : d.cert.l.length ≤ 1099511627776) : Calls Tryd.prog 49 #[.agg #[.int .i64 d.view, .string ⟨d.value.toArray⟩, .slice d.cert.a d.cert.l.length d.cert.c]] w (RetBool (deShort d) w) := by
  have HS : Hid (∀ w1, Below w.heap.size w w1 → Calls Tryd.prog 50 #[.slice d.cert.a d.cert.l.length d.cert.c] w1 fun e w' => e = .returned (.bool (certShort d.cert.l)) ∧ w1 = w') := Lib.hid (fun w1 hb => short_any _ _ _ w1 (hr.below hb) hn)
  have HB := Lib.hid (below_new w (.cells #[.int .i64 d.view, .string ⟨d.value.toArray⟩, .slice d.cert.a d.cert.l.length d.cert.c] 55))
  clear hr
  by_cases h1 : d.value.length ≤ 2000
  · have HZ : Hid (deShort d = certShort d.cert.l) := Lib.hid (by simp [deShort, h1])
    go_enter Tryd.func49, Tryd.ntmps49
    go_wp2_with fail
    refine (HS.out _ HB.out).mono ?_
    rintro e w' ⟨rfl, rfl⟩
    go_wp2_with fail
    go_ret
    exact ret_bl HZ.out HB.out
  · have HZ : Hid (deShort d = false) := Lib.hid (by simp [deShort, h1])
    go_enter Tryd.func49, Tryd.ntmps49
    go_wp2_with fail
    go_ret
    exact ret_bl HZ.out HB.out
end Go.Proofs.YtoehakekjlebdaaDoor
