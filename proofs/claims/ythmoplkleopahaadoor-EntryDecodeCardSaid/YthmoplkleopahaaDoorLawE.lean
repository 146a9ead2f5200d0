/- The law on Decode. -/
import Derived.Test.YthmoplkleopahaaDoorLawC
import Derived.Test.YthmoplkleopahaaDoorRefL
namespace Go.Proofs.YthmoplkleopahaaDoor
open Go.RowKit

set_option maxRecDepth 100000 in
set_option maxHeartbeats 2000000 in
theorem lawDecode (s : List UInt8) (w : World) (he : Env w) (hl : s.length ≤ 9223372036854775807) :
    Calls Tryd.prog 5 #[.string ⟨s.toArray⟩] w (RetBool true w) := by
  have HA : Hid (∀ W, Below w.heap.size w W → Calls Tryd.prog 11 #[] W fun e w' => e = .returned (.bool true) ∧ Below w.heap.size w w') := Lib.hid (fun W hW => (awake_any W (he.below hW)).mono fun _ _ ⟨a, b⟩ => ⟨a, bon hW b⟩)
  have HB0 : Hid (Below w.heap.size w w) := Lib.hid (Below.refl _ _)
  have HE : Hid (∀ W, Below w.heap.size w W → Env W) := Lib.hid (fun W hW => he.below hW)
  have hsz : (⟨s.toArray⟩ : ByteArray).size = s.length := size_mk s
  by_cases hbig : 2100 < s.length
  · have hb1 : (2100 : Int) < (s.length : Int) := by omega
    clear he
    go_enter Tryd.func5, Tryd.ntmps5
    go_wp2_with fail
    refine (HA.out _ HB0.out).mono ?_
    rintro e w1 ⟨rfl, b1⟩
    go_wp2_with fail
    refine (HA.out _ b1).mono ?_
    rintro e w2 ⟨rfl, b2⟩
    go_wp2_with fail
    go_ret
    exact ret_bl rfl b2
  · have hb1 : ¬ (2100 : Int) < (s.length : Int) := by omega
    have hs : s.length ≤ 2100 := by omega
    cases hd : decE s with
    | none =>
      have HD : Hid (∀ W, Below w.heap.size w W → Calls Tryd.prog 17 #[.string ⟨s.toArray⟩] W fun e w' => e = .returned (.tuple #[.agg #[.int .i64 0, .int .i64 0, .slice none 0 0], .int .i64 2]) ∧ Below W.heap.size W w') := Lib.hid (fun W hW => decode_none s W (HE.out W hW) hs hd)
      have HR : Hid (∀ W, Calls Tryd.prog 19 #[.string ⟨s.toArray⟩] W fun e w' => e = .returned (.tuple #[.agg #[.int .i64 0, .int .i64 0, .slice none 0 0], .int .i64 2]) ∧ Below W.heap.size W w') := Lib.hid (fun W => refDecode_none s W (by omega) hd)
      have HEq : Hid (∀ W, Calls Tryd.prog 18 #[.agg #[.int .i64 0, .int .i64 0, .slice none 0 0], .agg #[.int .i64 0, .int .i64 0, .slice none 0 0]] W fun e w' => e = .returned (.bool true) ∧ Below W.heap.size W w') := Lib.hid (fun W => equal_any 0 0 0 0 none none 0 0 [] [] W (rqIn_nil W) (rqIn_nil W))
      clear he hd
      go_enter Tryd.func5, Tryd.ntmps5
      go_wp2_with fail
      refine (HA.out _ HB0.out).mono ?_
      rintro e w1 ⟨rfl, b1⟩
      have HB1 := Lib.hid b1
      clear b1
      go_wp2_with fail
      refine (HD.out _ HB1.out).mono ?_
      rintro e w2 ⟨rfl, b2⟩
      have HB2 := Lib.hid (bon HB1.out b2)
      have HX2 := Lib.hid (bx_new w2 [.int .i64 0, .int .i64 0, .slice none 0 0] 24)
      clear b2
      go_wp2_with fail
      refine (HR.out _).mono ?_
      rintro e w3 ⟨rfl, b3⟩
      have HX3 := Lib.hid (bx_on HX2.out b3)
      have HX4 := Lib.hid (bx_alloc HX3.out (.cells #[.int .i64 0, .int .i64 0, .slice none 0 0] 24))
      obtain ⟨c0, c1, c2⟩ := (show _ ∧ _ ∧ _ from ⟨bx_cell HX4.out 0 _ rfl, bx_cell HX4.out 1 _ rfl, bx_cell HX4.out 2 _ rfl⟩)
      clear b3
      go_wp2_with fail
      refine (HEq.out _).mono ?_
      rintro e w4 ⟨rfl, b4⟩
      have HX5 := Lib.hid (bx_on HX4.out b4)
      have HY5 := Lib.hid (bx_on (bx_new w3 [.int .i64 0, .int .i64 0, .slice none 0 0] 24) b4)
      clear b4 c0 c1 c2
      obtain ⟨c0, c1, c2⟩ := (show _ ∧ _ ∧ _ from ⟨bx_cell HX5.out 0 _ rfl, bx_cell HX5.out 1 _ rfl, bx_cell HX5.out 2 _ rfl⟩)
      obtain ⟨d0, d1, d2⟩ := (show _ ∧ _ ∧ _ from ⟨bx_cell HY5.out 0 _ rfl, bx_cell HY5.out 1 _ rfl, bx_cell HY5.out 2 _ rfl⟩)
      go_wp2_with fail
      refine (HEq.out _).mono ?_
      rintro e w5 ⟨rfl, b5⟩
      go_wp2_with fail
      go_ret
      exact ret_bl rfl (bon (bon HB2.out (bx_low HX5.out)) b5)
    | some x =>
      obtain ⟨k, cf, rs⟩ := x
      obtain ⟨hv, hvs⟩ := decE_right hd
      have HD : Hid (∀ W, Below w.heap.size w W → Calls Tryd.prog 17 #[.string ⟨s.toArray⟩] W fun e w' => ∃ A c, (e = .returned (.tuple #[.agg #[.int .i64 k, .int .i64 cf, .slice A rs.length c], .int .i64 0]) ∧ RqIn w' A c rs) ∧ Below W.heap.size W w') := Lib.hid (fun W hW => decode_some s W (HE.out W hW) hs ⟨k, cf, rs⟩ hd)
      have HR : Hid (∀ W, Calls Tryd.prog 19 #[.string ⟨s.toArray⟩] W fun e w' => ∃ A c, (e = .returned (.tuple #[.agg #[.int .i64 k, .int .i64 cf, .slice A rs.length c], .int .i64 0]) ∧ RqIn w' A c rs) ∧ Below W.heap.size W w') := Lib.hid (fun W => refDecode_some s W (by omega) ⟨k, cf, rs⟩ hd)
      have HG : Hid (∀ (W : World) (A : Option Addr) (c : Nat), Below w.heap.size w W → RqIn W A c rs → Calls Tryd.prog 13 #[.agg #[.int .i64 k, .int .i64 cf, .slice A rs.length c]] W fun e w' => e = .returned (.tuple #[.string ⟨s.toArray⟩, .int .i64 0]) ∧ Below W.heap.size W w') := Lib.hid (fun W A c hW hq => by
        have hi : I64 cf := by
          rcases vEn_kind ⟨k, cf, rs⟩ hv with ⟨_, h0, _⟩ | ⟨_, h0, h1, _⟩ | ⟨_, h0, _⟩ <;> simp only [] at *
          · rw [h0]; exact ⟨by decide, by decide⟩
          · exact ⟨by omega, by omega⟩
          · rw [h0]; exact ⟨by decide, by decide⟩
        have hr8 := dec_rs hd
        have h9 := enEncode_any k cf rs A c W (HE.out W hW) hq (by have := hr8.1; simp only [] at this; omega) (fun r hr => (hr8.2 r hr).ok) hi
        unfold encE at h9
        rw [hv, if_pos rfl, hvs] at h9
        exact h9)
      clear he hd hv hvs
      go_enter Tryd.func5, Tryd.ntmps5
      go_wp2_with fail
      refine (HA.out _ HB0.out).mono ?_
      rintro e w1 ⟨rfl, b1⟩
      have HB1 := Lib.hid b1
      clear b1
      go_wp2_with fail
      refine (HD.out _ HB1.out).mono ?_
      rintro e w2 ⟨A2, c2, ⟨rfl, q2⟩, b2⟩
      have HB2 := Lib.hid (bon HB1.out b2)
      have HX2 := Lib.hid (bx_new w2 [.int .i64 k, .int .i64 cf, .slice A2 rs.length c2] 24)
      have HQ2 := Lib.hid q2
      clear b2 q2
      go_wp2_with fail
      refine (HR.out _).mono ?_
      rintro e w3 ⟨A3, c3, ⟨rfl, q3⟩, b3⟩
      have HX3 := Lib.hid (bx_on HX2.out b3)
      have HX4 := Lib.hid (bx_alloc HX3.out (.cells #[.int .i64 k, .int .i64 cf, .slice A3 rs.length c3] 24))
      have HQ3 := Lib.hid q3
      have HEq : Hid (∀ W, Bx w3 [.int .i64 k, .int .i64 cf, .slice A3 rs.length c3] 24 W → Calls Tryd.prog 18 #[.agg #[.int .i64 k, .int .i64 cf, .slice A2 rs.length c2], .agg #[.int .i64 k, .int .i64 cf, .slice A3 rs.length c3]] W fun e w' => e = .returned (.bool true) ∧ Below W.heap.size W w') :=
        Lib.hid (fun W hW => (equal_any k cf k cf A2 A3 c2 c3 rs rs W (HQ2.out.below (bon (bx_low HX3.out) (bx_low hW))) (HQ3.out.below (bx_low hW))).mono fun _ _ ⟨a, b⟩ => ⟨by rw [a, enEq_self], b⟩)
      have HY4 := Lib.hid (bx_new w3 [.int .i64 k, .int .i64 cf, .slice A3 rs.length c3] 24)
      obtain ⟨e0, e1, e2⟩ := (show _ ∧ _ ∧ _ from ⟨bx_cell HX4.out 0 _ rfl, bx_cell HX4.out 1 _ rfl, bx_cell HX4.out 2 _ rfl⟩)
      clear b3 q3
      go_wp2_with fail
      refine (HEq.out _ HY4.out).mono ?_
      rintro e w4 ⟨rfl, b4⟩
      have HX5 := Lib.hid (bx_on HX4.out b4)
      clear b4 e0 e1 e2
      obtain ⟨e0, e1, e2⟩ := (show _ ∧ _ ∧ _ from ⟨bx_cell HX5.out 0 _ rfl, bx_cell HX5.out 1 _ rfl, bx_cell HX5.out 2 _ rfl⟩)
      go_wp2_with fail
      refine (HG.out _ A2 c2 (bon HB2.out (bx_low HX5.out)) (HQ2.out.below (bx_low HX5.out))).mono ?_
      rintro e w5 ⟨rfl, b5⟩
      go_wp2_with fail
      go_ret
      exact ret_bl (by simp) (bon (bon HB2.out (bx_low HX5.out)) b5)
theorem lawDecodeB (s : ByteArray) (w : World) (he : Env w) (hl : s.size ≤ maxLen) :
    Calls Tryd.prog 5 #[.string s] w (RetBool true w) := by
  have hm : maxLen = 9223372036854775807 := by decide
  rw [hm] at hl
  exact lawDecode s.data.toList w he (by simpa using hl)
end Go.Proofs.YthmoplkleopahaaDoor
