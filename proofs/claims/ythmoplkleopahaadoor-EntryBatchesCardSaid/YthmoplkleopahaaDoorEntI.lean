/- The contract of entry.Decode, for every text. -/
import Derived.Test.YthmoplkleopahaaDoorEntH
namespace Go.Proofs.YthmoplkleopahaaDoor
open Go.RowKit

set_option maxRecDepth 100000 in
set_option maxHeartbeats 1000000 in
theorem decode_nil (s : List UInt8) (n : Nat) (w : World) (hs : s.length ≤ 4096) (hg : getList s = some ([], n)) : Calls Tryd.prog 17 #[.string ⟨s.toArray⟩] w (RetDec (decE s) w) := by
  have B0 := Lib.hid (below_new w (.cells #[.int .i64 0, .int .i64 0, .slice none 0 0] 24))
  have HL := Lib.hid (retL_some (getList_any ⟨s.toArray⟩ (w.alloc (.cells #[.int .i64 0, .int .i64 0, .slice none 0 0] 24)) (by rw [size_mk]; omega)) hg)
  have HD := Lib.hid (decE_nil hg)
  have HR := Lib.hid (O3.new w (.int .i64 0) (.int .i64 0) (.slice none 0 0) 24)
  clear hg
  go_enter Tryd.func17, Tryd.ntmps17
  go_wp2_with fail
  refine HL.out.mono ?_
  rintro e w1 ⟨⟨A, c, rfl, r1, hc⟩, b1⟩
  have B1 := Lib.hid (bon B0.out b1)
  obtain ⟨hlt, c0, c1, c2, f0, f1, f2⟩ := HR.out.below b1
  simp only [List.length_nil]
  clear b1 r1 hc
  go_wp2_with fail
  exact bodyPost_ret (v := .tuple #[.agg #[.int .i64 0, .int .i64 0, .slice none 0 0], .int .i64 2]) (by simp [results, Tryd.results17, go_sem, c0, c1, c2]) rfl (ret_d_none HD.out (((B1.out.setCell (Nat.le_refl _) _).setCell (Nat.le_refl _) _).setCell (Nat.le_refl _) _))
theorem decode_any (s : List UInt8) (w : World) (he : Env w) (hs : s.length ≤ 2100) : Calls Tryd.prog 17 #[.string ⟨s.toArray⟩] w (RetDec (decE s) w) := by
  cases hg : getList s with
  | none => exact decode_bad ⟨s.toArray⟩ w (by rw [size_mk]; omega) hg
  | some x =>
    obtain ⟨l, n⟩ := x
    match l, hg with
    | [], hg => exact decode_nil s n w (by omega) hg
    | h :: t, hg =>
      by_cases hf : h = wFinish
      · subst hf; exact decode_finish s t w he (by omega) n hg
      · by_cases hj : h = wJoin ∧ t.length = 1
        · obtain ⟨rfl, ht⟩ := hj
          match t, ht with
          | [x], _ => exact decode_join s x w he (by omega) n hg
        · exact decode_batch s h t w he hs n hg hj hf
/-- the two ways of Decode, for callers -/
theorem decode_some (s : List UInt8) (w : World) (he : Env w) (hs : s.length ≤ 2100) (x : En) (h : decE s = some x) :
    Calls Tryd.prog 17 #[.string ⟨s.toArray⟩] w fun e w' => ∃ A c, (e = .returned (.tuple #[.agg #[.int .i64 x.kind, .int .i64 x.cfg, .slice A x.rs.length c], .int .i64 0]) ∧ RqIn w' A c x.rs) ∧ Below w.heap.size w w' :=
  (decode_any s w he hs).mono fun _ _ ⟨hb, hx⟩ => by
    rw [h] at hx
    obtain ⟨A, c, h1, h2⟩ := hx
    exact ⟨A, c, ⟨h1, h2⟩, hb⟩
theorem decode_none (s : List UInt8) (w : World) (he : Env w) (hs : s.length ≤ 2100) (h : decE s = none) :
    Calls Tryd.prog 17 #[.string ⟨s.toArray⟩] w fun e w' => e = .returned (.tuple #[.agg #[.int .i64 0, .int .i64 0, .slice none 0 0], .int .i64 2]) ∧ Below w.heap.size w w' :=
  (decode_any s w he hs).mono fun _ _ ⟨hb, hx⟩ => by
    rw [h] at hx
    exact ⟨hx, hb⟩
end Go.Proofs.YthmoplkleopahaaDoor
