/- The laws on tokens, quotes and names. -/
import Derived.Test.YtdjpnncehlmehaaDoorM
namespace Go.Proofs.YtdjpnncehlmehaaDoor
open Go.RowKit

set_option maxRecDepth 100000 in
set_option maxHeartbeats 2000000 in
theorem lexTokens_all (s : ByteArray) (w : World) (hs : s.size ≤ maxLen) : Calls Tryd.prog 11 #[.string s] w (RetToks s.data.toList w) := by
  by_cases h : s.size ≤ 65536
  · exact lexTokens_any s w h
  · unfold maxLen at hs
    have hr : toksR s.data.toList = ([], 0, 3) := by unfold toksR; rw [if_pos (by rw [len_data]; omega)]
    have HR := Lib.hid hr
    clear hr
    go_enter Tryd.func11, Tryd.ntmps11
    go_wp2_with fail
    go_ret3
    exact ret_toks none 0 [] 0 3 HR.out (Rd.nil _ _ _) (Below.refl _ _)
set_option maxRecDepth 100000 in
set_option maxHeartbeats 2000000 in
theorem refTokens_all (s : ByteArray) (w : World) (hs : s.size ≤ maxLen) : Calls Tryd.prog 12 #[.string s] w (RetToks s.data.toList w) := by
  by_cases h : s.size ≤ 65536
  · exact refTokens_any s w h
  · unfold maxLen at hs
    have hr : toksR s.data.toList = ([], 0, 3) := by unfold toksR; rw [if_pos (by rw [len_data]; omega)]
    have HR := Lib.hid hr
    clear hr
    go_enter Tryd.func12, Tryd.ntmps12
    go_wp2_with fail
    go_ret3
    exact ret_toks none 0 [] 0 3 HR.out (Rd.nil _ _ _) (Below.refl _ _)
theorem toks_len : ∀ (n : Nat) (l : List UInt8) (line : Int) (acc ts : List Tok), l.length = n → toks l line acc = .ok ts → ts.length ≤ acc.length + l.length := by
  intro n
  induction n using Nat.strongRecOn with
  | _ n ih =>
    intro l line acc ts hn h
    match l with
    | [] => rw [toks] at h; cases h; simp
    | c :: r =>
      simp only [List.length_cons] at hn ⊢
      rw [toks] at h
      split at h
      · have := ih r.length (by omega) _ _ _ _ rfl h; omega
      · split at h
        · have h1 := (List.dropWhile_sublist notNl (l := r)).length_le
          have := ih (r.dropWhile notNl).length (by omega) _ _ _ _ rfl h
          omega
        · split at h
          · cases h
          · rename_i t k hk
            have := ih (r.drop (k - 1)).length (by simp; omega) _ _ _ _ rfl h
            simp at this; omega
theorem toksR_len (l : List UInt8) : (toksR l).1.length ≤ 65536 := by
  unfold toksR
  split
  · simp
  · rename_i h
    cases ht : toks l 1 [] with
    | error n => simp
    | ok ts => have := toks_len _ l 1 [] ts rfl ht; simp at this ⊢; omega
theorem sameB_self (xs : List Tok) (b : Bool) : sameB xs xs b = true := by cases b <;> simp [sameB]

set_option maxRecDepth 100000 in
set_option maxHeartbeats 2000000 in
theorem lawTokens (s : ByteArray) (w : World) (hs : s.size ≤ maxLen) (hsh : w.ShapedOpen Tryd.prog) :
    Calls Tryd.prog 3 #[.string s] w fun e w' => e = .returned (.bool true) ∧ Below w.heap.size w w' := by
  have HA := Lib.hid (fun (w : World) (h : w.ShapedOpen Tryd.prog) => awake_any w h)
  have HL := Lib.hid (fun w => lexTokens_all s w hs)
  have HR := Lib.hid (fun w => refTokens_all s w hs)
  have HN := Lib.hid (toksR_len s.data.toList)
  have HSH := Lib.hid hsh
  unfold maxLen at hs
  clear hsh
  by_cases hc : 2000 < s.size ∧ s.size ≤ 65536
  · obtain ⟨h1, h2⟩ := hc
    go_enter Tryd.func3, Tryd.ntmps3
    go_wp2_with fail
    refine (HA.out _ HSH.out).mono ?_
    rintro e w1 ⟨rfl, b1⟩
    have B1 := Lib.hid b1
    clear b1
    go_wp2_with fail
    refine (HA.out _ (shaped_below HSH.out B1.out)).mono ?_
    rintro e w2 ⟨rfl, b2⟩
    go_wp2_with fail
    go_ret
    exact ⟨rfl, B1.out.trans (b2.mono B1.out.size)⟩
  · have hcc : s.size ≤ 2000 ∨ (2000 < s.size ∧ 65536 < s.size) := by omega
    clear hc
    rcases hcc with hcc | ⟨hc1, hc2⟩
    all_goals
      go_enter Tryd.func3, Tryd.ntmps3
      go_wp2_with fail
      refine (HA.out _ HSH.out).mono ?_
      rintro e w1 ⟨rfl, b1⟩
      have B1 := Lib.hid b1
      clear b1
      go_wp2_with fail
      refine (HL.out _).mono ?_
      rintro e w2 ⟨A2, c2, rfl, r2, b2⟩
      have R2 := Lib.hid r2
      have B2 := Lib.hid (B1.out.trans (b2.mono B1.out.size))
      clear r2 b2
      go_wp2_with fail
      refine (HR.out _).mono ?_
      rintro e w3 ⟨A3, c3, rfl, r3, b3⟩
      have R3 := Lib.hid r3
      have R2' := Lib.hid (R2.out.below b3)
      have B3 := Lib.hid (B2.out.trans (b3.mono B2.out.size))
      clear r3 b3
      go_wp2_with fail
      refine (same_any A2 A3 c2 c3 _ _ true _ R2'.out R3.out (by have := HN.out; omega) (by have := HN.out; omega)).mono ?_
      rintro e w4 ⟨rfl, b4⟩
      rw [sameB_self]
      go_wp2_with fail
      go_ret
      exact ⟨rfl, B3.out.trans (b4.mono B3.out.size)⟩
end Go.Proofs.YtdjpnncehlmehaaDoor
