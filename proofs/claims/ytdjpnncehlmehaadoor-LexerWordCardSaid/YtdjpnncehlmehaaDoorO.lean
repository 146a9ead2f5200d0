/- The laws on quotes, names and lines. -/
import Derived.Test.YtdjpnncehlmehaaDoorN
namespace Go.Proofs.YtdjpnncehlmehaaDoor
open Go.RowKit

theorem hexv_hexd : ∀ d : Fin 16, hexv ((hexd d.val).toNat : Int) = d.val := by decide +kernel
/-- what Quote writes for a byte is read as this byte -/
theorem chrR_qch (c : UInt8) (rest : List UInt8) : chrR (qch c ++ rest) = ((c.toNat : Int), ((qch c).length : Int)) ∧ ∃ h t, qch c = h :: t ∧ (h.toNat : Int) ≠ 34 := by
  have hb := byte_lt c
  unfold qch
  by_cases h1 : (c.toNat : Int) = 34 ∨ (c.toNat : Int) = 92
  · rw [if_pos h1]
    refine ⟨?_, 92, [c], rfl, by decide⟩
    rw [List.cons_append, chrR_cons, if_neg (by decide), if_neg (by decide)]
    have : escR ([c] ++ rest) = ((c.toNat : Int), 1) := by
      simp only [List.singleton_append, escR]; rw [if_pos h1]
    rw [this]; rfl
  · rw [if_neg h1]
    by_cases h2 : (c.toNat : Int) = 10
    · rw [if_pos h2]
      refine ⟨?_, 92, [110], rfl, by decide⟩
      rw [List.cons_append, chrR_cons, if_neg (by decide), if_neg (by decide)]
      have : escR ([110] ++ rest) = (10, 1) := by
        simp only [List.singleton_append, escR]; rw [if_neg (by decide), if_pos (by decide)]
      rw [this, h2]; rfl
    · rw [if_neg h2]
      by_cases h3 : (c.toNat : Int) < 32 ∨ 126 < (c.toNat : Int)
      · rw [if_pos h3]
        refine ⟨?_, 92, _, rfl, by decide⟩
        rw [List.cons_append, chrR_cons, if_neg (by decide), if_neg (by decide)]
        have e1 : hexv ((hexd (c.toNat / 16)).toNat : Int) = ((c.toNat / 16 : Nat) : Int) := hexv_hexd ⟨c.toNat / 16, by omega⟩
        have e2 : hexv ((hexd (c.toNat % 16)).toNat : Int) = ((c.toNat % 16 : Nat) : Int) := hexv_hexd ⟨c.toNat % 16, by omega⟩
        have : escR ([120, hexd (c.toNat / 16), hexd (c.toNat % 16)] ++ rest) = ((c.toNat : Int), 3) := by
          simp only [List.cons_append, List.nil_append, escR]
          rw [if_neg (by decide), if_neg (by decide), if_pos (by decide), e1, e2, if_pos (by omega)]
          congr 1
          omega
        rw [this]; rfl
      · rw [if_neg h3]
        refine ⟨?_, c, [], rfl, fun e => h1 (.inl e)⟩
        rw [List.cons_append, chrR_cons, if_neg (by omega), if_pos (fun e => h1 (.inr e))]; rfl
theorem litFrom_qmid (l rest acc : List UInt8) (i : Nat) : litFrom (qmid l ++ 34 :: rest) acc i = (acc ++ l, (i : Int) + (qmid l).length + 1) := by
  induction l generalizing acc i with
  | nil => simp [qmid, litFrom]
  | cons c r ih =>
    obtain ⟨hc, h, t, hq, hh⟩ := chrR_qch c (qmid r ++ 34 :: rest)
    have e : qmid (c :: r) ++ 34 :: rest = h :: (t ++ (qmid r ++ 34 :: rest)) := by
      simp only [qmid, List.flatMap_cons, hq]; simp
    have e2 : qch c ++ (qmid r ++ 34 :: rest) = h :: (t ++ (qmid r ++ 34 :: rest)) := by rw [hq]; rfl
    rw [e2] at hc
    rw [e, litFrom, if_neg hh, hc]
    have hl : (qch c).length = t.length + 1 := by rw [hq]; rfl
    rw [if_neg (by simp only; omega)]
    simp only [hl]
    rw [show ((t.length + 1 : Nat) : Int).toNat - 1 = t.length from by omega, List.drop_left, ih]
    refine Prod.ext ?_ ?_
    · simp
    · simp only [qmid, List.flatMap_cons, List.length_append, hl]; push_cast; omega
theorem litR_quote (l : List UInt8) : litR (quote l) = (l, ((quote l).length : Int)) := by
  simp only [quote, litR]
  rw [if_pos (by decide), litFrom_qmid l [] [] 1]
  refine Prod.ext rfl ?_
  simp only [List.length_cons, List.length_append]; push_cast; simp; omega
theorem unq_quote (l : List UInt8) : unq (quote l) = (l, 0) := by
  unfold unq
  rw [litR_quote, if_neg]
  simp only
  simp [quote]; omega
theorem toksR_quote (l : List UInt8) (h : (quote l).length ≤ 65536) : toksR (quote l) = ([⟨3, [], 0, l, 1⟩], 0, 0) := by
  have e : toks (quote l) 1 [] = .ok [⟨3, [], 0, l, 1⟩] := by
    have hq : quote l = 34 :: (qmid l ++ [34]) := rfl
    have ht : tok1 (34 :: (qmid l ++ [34])) = some (⟨3, [], 0, l, 0⟩, (quote l).length) := by
      rw [tok1_cons, if_neg (by decide), if_neg (by decide), if_pos (by decide), ← hq, litR_quote, if_neg (by simp [quote]; omega)]
      simp
    rw [hq, toks_tok _ _ _ _ (by decide) (by rfl), ht]
    simp only
    rw [List.drop_eq_nil_of_le (by simp [quote]), toks]
    rfl
  unfold toksR
  rw [if_neg (by omega), e]
theorem quote_len (l : List UInt8) : (quote l).length ≤ 4 * l.length + 2 := by
  have := qmid_len l
  simp [quote]; omega

theorem rd_tok1 (w : World) (t : Tok) : Rd (w.alloc (.cells (tokA t) 33)) 5 (some ⟨w.heap.size, 0, none⟩) 1 (toksC [t]) := by
  refine ⟨by rw [toksC_len]; rfl, fun _ => ⟨_, _, rfl, by simp, fun j u hu => ?_⟩⟩
  rw [← add_off]
  refine cell_new w (tokC t) 33 _ rfl j u ?_
  simpa [toksC] using hu
set_option maxRecDepth 100000 in
set_option maxHeartbeats 2000000 in
theorem lawUnquote (s : ByteArray) (w : World) (hs : s.size ≤ maxLen) (hsh : w.ShapedOpen Tryd.prog) :
    Calls Tryd.prog 5 #[.string s] w fun e w' => e = .returned (.bool true) ∧ Below w.heap.size w w' := by
  have HA := Lib.hid (fun (w : World) (h : w.ShapedOpen Tryd.prog) => awake_any w h)
  have HSH := Lib.hid hsh
  unfold maxLen at hs
  clear hsh
  by_cases hc : 1000 < s.size
  · go_enter Tryd.func5, Tryd.ntmps5
    go_wp2_with fail
    refine (HA.out _ HSH.out).mono ?_
    rintro e w1 ⟨rfl, b1⟩
    have B1 := Lib.hid b1
    clear b1
    go_wp2_with fail
    refine (HA.out _ (shaped_below HSH.out B1.out)).mono ?_
    rintro e w2 ⟨rfl, b2⟩
    go_wp2_with fail
    go_ret
    exact ⟨rfl, B1.out.trans (b2.mono B1.out.size)⟩
  · have HL := Lib.hid (fun w => lexUnquote_any s w (by omega))
    have HR := Lib.hid (fun w => refUnquote_any s w (by omega))
    go_enter Tryd.func5, Tryd.ntmps5
    go_wp2_with fail
    refine (HA.out _ HSH.out).mono ?_
    rintro e w1 ⟨rfl, b1⟩
    have B1 := Lib.hid b1
    clear b1
    go_wp2_with fail
    refine (HL.out _).mono ?_
    rintro e w2 ⟨rfl, b2⟩
    have B2 := Lib.hid (B1.out.trans (b2.mono B1.out.size))
    clear b2
    go_wp2_with fail
    refine (HR.out _).mono ?_
    rintro e w3 ⟨rfl, b3⟩
    have B3 := Lib.hid (B2.out.trans (b3.mono B2.out.size))
    clear b3
    go_wp2_with fail
    go_ret
    exact ⟨rfl, B3.out⟩
set_option maxRecDepth 100000 in
set_option maxHeartbeats 2000000 in
theorem lawQuote (s : ByteArray) (w : World) (hs : s.size ≤ maxLen) (hsh : w.ShapedOpen Tryd.prog) :
    Calls Tryd.prog 4 #[.string s] w fun e w' => e = .returned (.bool true) ∧ Below w.heap.size w w' := by
  have HA := Lib.hid (fun (w : World) (h : w.ShapedOpen Tryd.prog) => awake_any w h)
  have HSH := Lib.hid hsh
  unfold maxLen at hs
  clear hsh
  by_cases hc : 1000 < s.size
  · go_enter Tryd.func4, Tryd.ntmps4
    go_wp2_with fail
    refine (HA.out _ HSH.out).mono ?_
    rintro e w1 ⟨rfl, b1⟩
    have B1 := Lib.hid b1
    clear b1
    go_wp2_with fail
    refine (HA.out _ (shaped_below HSH.out B1.out)).mono ?_
    rintro e w2 ⟨rfl, b2⟩
    go_wp2_with fail
    go_ret
    exact ⟨rfl, B1.out.trans (b2.mono B1.out.size)⟩
  · have hql := quote_len s.data.toList
    rw [len_data] at hql
    have HQ := Lib.hid (fun w => lexQuote_any s w (by omega))
    have HQ2 := Lib.hid (fun w => refQuote_any s w (by omega))
    have hU : ∀ w, Calls Tryd.prog 15 #[.string ⟨(quote s.data.toList).toArray⟩] w fun e w' => e = .returned (.tuple #[.string s, .int .i64 0]) ∧ Below w.heap.size w w' := fun w => by
      have h := lexUnquote_any ⟨(quote s.data.toList).toArray⟩ w (by simp [ByteArray.size]; omega)
      rw [show (ByteArray.mk (quote s.data.toList).toArray).data.toList = quote s.data.toList from by simp, unq_quote] at h
      exact h
    have HU := Lib.hid hU
    have hT : ∀ w, Calls Tryd.prog 11 #[.string ⟨(quote s.data.toList).toArray⟩] w (RetToks (quote s.data.toList) w) := fun w => by
      have h := lexTokens_any ⟨(quote s.data.toList).toArray⟩ w (by simp [ByteArray.size]; omega)
      rw [show (ByteArray.mk (quote s.data.toList).toArray).data.toList = quote s.data.toList from by simp] at h
      exact h
    have HT := Lib.hid hT
    have HTR := Lib.hid (toksR_quote s.data.toList (by omega))
    clear hU hT hql
    generalize hqq : quote s.data.toList = q at *
    clear hqq
    go_enter Tryd.func4, Tryd.ntmps4
    go_wp2_with fail
    refine (HA.out _ HSH.out).mono ?_
    rintro e w1 ⟨rfl, b1⟩
    have B1 := Lib.hid b1
    clear b1
    go_wp2_with fail
    refine (HQ.out _).mono ?_
    rintro e w2 ⟨rfl, b2⟩
    have B2 := Lib.hid (B1.out.trans (b2.mono B1.out.size))
    clear b2
    go_wp2_with fail
    refine (HU.out _).mono ?_
    rintro e w3 ⟨rfl, b3⟩
    have B3 := Lib.hid (B2.out.trans (b3.mono B2.out.size))
    clear b3
    go_wp2_with fail
    refine (HT.out _).mono ?_
    rintro e w4 ⟨A4, c4, rfl, r4, b4⟩
    rw [HTR.out] at r4 ⊢
    have R4 := Lib.hid r4
    have B4 := Lib.hid (B3.out.trans (b4.mono B3.out.size))
    clear r4 b4
    go_wp2_with fail
    refine (HQ2.out _).mono ?_
    rintro e w5 ⟨rfl, b5⟩
    have R5 := Lib.hid (R4.out.below b5)
    have B5 := Lib.hid (B4.out.trans (b5.mono B4.out.size))
    clear b5
    go_wp2_with fail
    have ra := R5.out.below ((Below.refl w5.heap.size w5).alloc (Nat.le_refl _) (.cells #[.int .i64 3, .string ⟨#[]⟩, .int .i64 0, .string s, .int .i64 0] 33))
    have rb : Rd (w5.alloc (.cells #[.int .i64 3, .string ⟨#[]⟩, .int .i64 0, .string s, .int .i64 0] 33)) 5 (some ⟨w5.heap.size, 0, none⟩) 1 (toksC [⟨3, [], 0, s.data.toList, 0⟩]) := rd_tok1 w5 ⟨3, [], 0, s.data.toList, 0⟩
    refine (same_any A4 (some ⟨w5.heap.size, 0, none⟩) c4 1 [⟨3, [], 0, s.data.toList, 1⟩] [⟨3, [], 0, s.data.toList, 0⟩] false _ ra rb (by simp) (by simp)).mono ?_
    rintro e w6 ⟨rfl, b6⟩
    rw [show sameB [⟨3, [], 0, s.data.toList, 1⟩] [⟨3, [], 0, s.data.toList, 0⟩] false = true from by simp [sameB, unline]]
    have B6 := Lib.hid ((B5.out.alloc B5.out.size _).trans (b6.mono (by have := B5.out.size; simp; omega)))
    clear b6 ra rb
    go_wp2_with fail
    go_ret
    exact ⟨rfl, B6.out⟩
end Go.Proofs.YtdjpnncehlmehaaDoor
