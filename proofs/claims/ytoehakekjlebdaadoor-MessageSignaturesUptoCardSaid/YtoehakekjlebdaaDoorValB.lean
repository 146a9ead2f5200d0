/- The contracts of the checks of statuses and entries. -/
import Derived.Test.YtoehakekjlebdaaDoorValA
namespace Go.Proofs.YtoehakekjlebdaaDoor
open Go.RowKit

theorem rdN_new (w : World) (g k n : Nat) (cs : List Value) (T : TypeId) (h : cs.length = n * k) (hg : g < w.heap.size) : RdN g (w.alloc (.cells cs.toArray T)) k (some ⟨w.heap.size, 0, none⟩) n cs :=
  ⟨h, fun _ => ⟨w.heap.size, 0, rfl, by simp, by omega, fun j u hu => by rw [← add_off]; exact cell_new w cs T _ rfl j u hu⟩⟩
theorem RdN.kept {g k n : Nat} {w w' : World} {A : Option Addr} {xs : List Value} (h : RdN g w k A n xs) (hg : w.grownBy w' (some g)) : RdN g w' k A n xs :=
  ⟨h.len, fun hj => by
    obtain ⟨b, o, e, hl, hne, hc⟩ := h.cells hj
    exact ⟨b, o, e, Nat.lt_of_lt_of_le hl hg.size, hne, fun j u hu => (hg.cell_far ⟨b, o + j, none⟩ hl (by simp; omega)).trans (hc j u hu)⟩⟩
theorem one_signed (g : Nat) (o t : Bool) (x : Sg) (w : World) (hk : Ck w g o t) {h : Nat} (hh : w.heap.size = h) :
    Calls Tryd.prog 22 #[.pointer (some ⟨g, 0, none⟩), .slice (some ⟨h, 0, none⟩) 1 1] (w.alloc (.cells #[.int .i64 x.server, .int .i64 x.kind, .int .i64 x.view, .int .i64 x.slot, .string ⟨x.digest.toArray⟩, .string ⟨x.sig.toArray⟩] 23))
      fun e w' => e = .returned (.tuple #[]) ∧ CkTo w g o (t || !sgShort x) w' := by
  subst hh
  have h1 := signed_any g o t (some ⟨w.heap.size, 0, none⟩) 1 [x] _ (hk.below (below_new w (.cells (sgC x).toArray 23))) (by simpa using rdN_new w g 6 1 (sgC x) 23 rfl hk.lt) (by simp)
  refine Calls.mono h1 fun e w' ⟨he, hc⟩ => ⟨he, ⟨(World.grownBy_alloc w _ _).trans hc.1, ?_⟩⟩
  have := hc.2
  simpa using this
/-- the cells of a box behind a call that turns the checker's marks alone -/
theorem box_kept {w w' : World} {g b : Nat} (hg : w.grownBy w' (some g)) (hb : b < w.heap.size) (hne : b ≠ g) (j : Nat) {v : Value} (h : w.cell? ⟨b, j, none⟩ = some v) : w'.cell? ⟨b, j, none⟩ = some v :=
  (hg.cell_far ⟨b, j, none⟩ hb (by simp; omega)).trans h
theorem new_cell (W : World) (cs : List Value) (T : TypeId) (b : Nat) (hb : b = W.heap.size) (j : Nat) (v : Value) (h : cs[j]? = some v) : (W.alloc (.cells cs.toArray T)).cell? ⟨b, j, none⟩ = some v := by
  have := cell_new W cs T b hb j v h
  rwa [add_off, Nat.zero_add] at this
set_option maxRecDepth 100000 in
set_option maxHeartbeats 4000000 in
theorem entryCk_any (g : Nat) (o t : Bool) (d : De) (w : World) (hk : Ck w g o t) (hr : RdN g w 6 d.cert.a d.cert.l.length (d.cert.l.flatMap sgC)) (hn : d.cert.l.length ≤ 1099511627776) :
    Calls Tryd.prog 24 #[.pointer (some ⟨g, 0, none⟩), .agg #[.int .i64 d.view, .string ⟨d.value.toArray⟩, .slice d.cert.a d.cert.l.length d.cert.c]] w (RetCk w g (o || !num d.view) (t || !deShort d)) := by
  have HN := Lib.hid (fun w' => number_any d.view w')
  have HS : Hid (∀ q1 q2 : Bool, q1 = (o || !num d.view) → q2 = (t || !decide (d.value.length ≤ 2000)) → Calls Tryd.prog 44 #[.pointer (some ⟨g, 0, none⟩), .slice d.cert.a d.cert.l.length d.cert.c] (((w.setCell ⟨g, 0, none⟩ (.bool q1)).setCell ⟨g, 1, none⟩ (.bool q2)).alloc (.cells #[.int .i64 d.view, .string ⟨d.value.toArray⟩, .slice d.cert.a d.cert.l.length d.cert.c] 55)) (RetCk w g (o || !num d.view) (t || !deShort d))) :=
    Lib.hid (fun q1 q2 h1 h2 => by
      have hc := (((CkTo.refl hk).set0 q1).set1 q2).alloc (.cells #[.int .i64 d.view, .string ⟨d.value.toArray⟩, .slice d.cert.a d.cert.l.length d.cert.c] 55)
      refine (cert_any g q1 q2 d.cert.a d.cert.c d.cert.l _ hc.2 (hr.kept hc.1) hn).mono fun e w' ⟨he, h⟩ => ⟨he, (hc.trans h).eq h1 ?_⟩
      rw [h2]; unfold deShort; cases t <;> cases decide (d.value.length ≤ 2000) <;> cases certShort d.cert.l <;> rfl)
  have k0 := hk.c0
  have k1 := hk.c1
  have k2 := hk.f0
  have k3 := hk.f1
  have hgl := hk.lt
  clear hk hr
  cases o <;> cases t
  all_goals
    go_enter Tryd.func24, Tryd.ntmps24
    go_wp2_with (go_at_call 20; refine (HN.out _).mono ?_; rintro e w' ⟨rfl, rfl⟩)
    refine (HS.out _ _ (by first | rfl | simp) (by first | rfl | exact long_val _ 2000 | simp)).mono ?_
    rintro e w1 ⟨rfl, b1⟩
    have B1 := Lib.hid b1
    clear b1
    go_wp2_with fail
    go_end0
    exact ⟨rfl, B1.out⟩
set_option maxRecDepth 100000 in
set_option maxHeartbeats 16000000 in
theorem statusCk_any (g : Nat) (o t : Bool) (s : St) (w : World) (hk : Ck w g o t) (hr : RdN g w 6 s.cert.a s.cert.l.length (s.cert.l.flatMap sgC)) (hn : s.cert.l.length ≤ 1099511627776) :
    Calls Tryd.prog 23 #[.pointer (some ⟨g, 0, none⟩), .agg #[.int .i64 s.server, .int .i64 s.view, .int .i64 s.length, .int .i64 s.lockView, .string ⟨s.lock.toArray⟩, .slice s.cert.a s.cert.l.length s.cert.c, .int .i64 s.signed.server, .int .i64 s.signed.kind, .int .i64 s.signed.view, .int .i64 s.signed.slot, .string ⟨s.signed.digest.toArray⟩, .string ⟨s.signed.sig.toArray⟩]] w (RetCk w g (o || !stRange s) (t || !stShort s)) := by
  have HN := Lib.hid (fun n w' => number_any n w')
  have HS : Hid (∀ q1 q2 : Bool, q1 = (o || !stRange s) → q2 = (t || !decide (s.lock.length ≤ 2000)) → Calls Tryd.prog 44 #[.pointer (some ⟨g, 0, none⟩), .slice s.cert.a s.cert.l.length s.cert.c] (((w.setCell ⟨g, 0, none⟩ (.bool q1)).setCell ⟨g, 1, none⟩ (.bool q2)).alloc (.cells #[.int .i64 s.server, .int .i64 s.view, .int .i64 s.length, .int .i64 s.lockView, .string ⟨s.lock.toArray⟩, .slice s.cert.a s.cert.l.length s.cert.c, .int .i64 s.signed.server, .int .i64 s.signed.kind, .int .i64 s.signed.view, .int .i64 s.signed.slot, .string ⟨s.signed.digest.toArray⟩, .string ⟨s.signed.sig.toArray⟩] 52)) fun e w1 => e = .returned (.tuple #[]) ∧ CkTo w g (o || !stRange s) (t || !(decide (s.lock.length ≤ 2000) && certShort s.cert.l)) w1 ∧ w.heap.size < w1.heap.size ∧
      (w1.cell? ⟨w.heap.size, 6, none⟩ = some (.int .i64 s.signed.server) ∧ w1.cell? ⟨w.heap.size, 7, none⟩ = some (.int .i64 s.signed.kind) ∧ w1.cell? ⟨w.heap.size, 8, none⟩ = some (.int .i64 s.signed.view) ∧ w1.cell? ⟨w.heap.size, 9, none⟩ = some (.int .i64 s.signed.slot) ∧ w1.cell? ⟨w.heap.size, 10, none⟩ = some (.string ⟨s.signed.digest.toArray⟩) ∧ w1.cell? ⟨w.heap.size, 11, none⟩ = some (.string ⟨s.signed.sig.toArray⟩))) :=
    Lib.hid (fun q1 q2 h1 h2 => by
      have hc := (((CkTo.refl hk).set0 q1).set1 q2).alloc (.cells #[.int .i64 s.server, .int .i64 s.view, .int .i64 s.length, .int .i64 s.lockView, .string ⟨s.lock.toArray⟩, .slice s.cert.a s.cert.l.length s.cert.c, .int .i64 s.signed.server, .int .i64 s.signed.kind, .int .i64 s.signed.view, .int .i64 s.signed.slot, .string ⟨s.signed.digest.toArray⟩, .string ⟨s.signed.sig.toArray⟩] 52)
      refine (cert_any g q1 q2 s.cert.a s.cert.c s.cert.l _ hc.2 (hr.kept hc.1) hn).mono fun e w' ⟨he, h⟩ => ⟨he, (hc.trans h).eq h1 ?_, ?_, ?_⟩
      · rw [h2]; cases t <;> cases decide (s.lock.length ≤ 2000) <;> cases certShort s.cert.l <;> rfl
      · have := h.1.size; simp at this; omega
      · have hgl := hk.lt
        refine ⟨?_, ?_, ?_, ?_, ?_, ?_⟩ <;> exact box_kept h.1 (by simp) (by omega) _ (new_cell _ (stC s) _ _ (by simp) _ _ rfl))
  have HO : Hid (∀ w1, CkTo w g (o || !stRange s) (t || !(decide (s.lock.length ≤ 2000) && certShort s.cert.l)) w1 → ∀ h, w1.heap.size = h → Calls Tryd.prog 22 #[.pointer (some ⟨g, 0, none⟩), .slice (some ⟨h, 0, none⟩) 1 1] (w1.alloc (.cells #[.int .i64 s.signed.server, .int .i64 s.signed.kind, .int .i64 s.signed.view, .int .i64 s.signed.slot, .string ⟨s.signed.digest.toArray⟩, .string ⟨s.signed.sig.toArray⟩] 23)) (RetCk w g (o || !stRange s) (t || !stShort s))) :=
    Lib.hid (fun w1 hc h hh => (one_signed g _ _ s.signed w1 hc.2 hh).mono fun e w' ⟨he, hq⟩ => ⟨he, (hc.trans hq).eq rfl (by unfold stShort; cases t <;> cases decide (s.lock.length ≤ 2000) <;> cases certShort s.cert.l <;> cases sgShort s.signed <;> rfl)⟩)
  have k0 := hk.c0
  have k1 := hk.c1
  have k2 := hk.f0
  have k3 := hk.f1
  have hgl := hk.lt
  clear hk hr
  cases o <;> cases t
  all_goals
    go_enter Tryd.func23, Tryd.ntmps23
    go_wp2_with (go_at_call 20; refine (HN.out _ _).mono ?_; rintro e w' ⟨rfl, rfl⟩)
  all_goals
    refine (HS.out _ _ (by first | rfl | (simp [stRange, *]; done) | (simp [stRange, *]; omega)) (by first | rfl | exact long_val _ 2000 | simp)).mono ?_
    rintro e w1 ⟨rfl, b1, hz, a6, a7, a8, a9, a10, a11⟩
    have B1 := Lib.hid b1
    clear b1
    go_wp2_with fail
    refine (HO.out _ B1.out _ rfl).mono ?_
    rintro e w2 ⟨rfl, b2⟩
    have B2 := Lib.hid b2
    clear b2
    go_wp2_with fail
    go_end0
    exact ⟨rfl, B2.out⟩
end Go.Proofs.YtoehakekjlebdaaDoor
