/- Contracts of the reference's function that reads one token. -/
import Derived.Test.YtdjpnncehlmehaaDoorE
namespace Go.Proofs.YtdjpnncehlmehaaDoor
open Go.RowKit

set_option maxRecDepth 100000 in
set_option maxHeartbeats 1000000 in
theorem token_letter (s : ByteArray) (w : World) (hs : s.size ≤ maxLen) (h0 : 0 < s.size) (hl : isLet s[0].toNat = true) :
    Calls Tryd.prog 34 #[.string s] w (RetTok s.data.toList w) := by
  unfold maxLen at hs
  have HT := Lib.hid (tok1_at s h0)
  have HL := Lib.hid hl
  have hlen : s.data.toList.length = s.size := by simp
  have HLen := Lib.hid hlen
  clear hl hlen
  go_enter Tryd.func34, Tryd.ntmps34
  go_wp2_with fail
  refine (letter_any _ _).mono ?_
  rw [HL.out]
  rintro e w1 ⟨rfl, rfl⟩
  go_wp2_with fail
  go_loop [4] (fun i => ∃ k : Nat, i = .int .i64 k ∧ k ≤ s.size ∧ (∀ j, (h : j < s.size) → j < k → isCon s[j].toNat = true)) (fun i => s.size - (intOf i).toNat)
  case atStart => exact ⟨0, rfl, by omega, by intro j h h'; omega⟩
  case round =>
    obtain ⟨k, rfl, hk, hj⟩ := hrel
    have HJ := Lib.hid hj
    clear hj
    have hnext : (h : k < s.size) → isCon s[k].toNat = true → ∀ j, (h : j < s.size) → j < k + 1 → isCon s[j].toNat = true := fun hlt hd j h h' => by
      rcases Nat.lt_or_ge j k with h1 | h1
      · exact HJ.out j h h1
      · obtain rfl : j = k := by omega
        exact hd
    have HN := Lib.hid hnext
    clear hnext
    have hcc : (k < s.size → ∃ h : k < s.size, isLet s[k].toNat = true ∨ (isLet s[k].toNat = false ∧ isDig s[k].toNat = true) ∨ (isLet s[k].toNat = false ∧ isDig s[k].toNat = false)) := fun h => ⟨h, by
      cases isLet s[k].toNat <;> cases isDig s[k].toNat <;> simp⟩
    have hout : (∀ h : k < s.size, isCon s[k].toNat = false) → Hid (run isCon s.data.toList = k) := fun h => Lib.hid
      (run_at isCon s.data.toList k (by simpa using hk) (fun j h h' => HJ.out j (by simpa using h) h') (fun h' => h (by simpa using h')))
    have HO := Lib.hid hout
    clear hout
    by_cases hlt : k < s.size
    · obtain ⟨_, hx⟩ := hcc hlt
      clear hcc
      rcases hx with hx | ⟨hx, hy⟩ | ⟨hx, hy⟩
      · have HX := Lib.hid hx
        have HC := Lib.hid (HN.out hlt (by simp [isCon, hx]))
        clear hx
        go_wp2_with (go_at_call 43; refine (letter_any _ _).mono ?_; rw [HX.out]; rintro e w' ⟨rfl, rfl⟩)
        go_round
        case rel => exact ⟨k + 1, by go_num, by omega, HC.out⟩
        case measure => simp [intOf]; omega
      · have HX := Lib.hid hx
        have HY := Lib.hid hy
        have HC := Lib.hid (HN.out hlt (by simp [isCon, hx, hy]))
        clear hx hy
        go_wp2_with (first | (go_at_call 43; refine (letter_any _ _).mono ?_; rw [HX.out]; rintro e w' ⟨rfl, rfl⟩) | (go_at_call 44; refine (digit_any _ _).mono ?_; rw [HY.out]; rintro e w' ⟨rfl, rfl⟩))
        go_round
        case rel => exact ⟨k + 1, by go_num, by omega, HC.out⟩
        case measure => simp [intOf]; omega
      · have HX := Lib.hid hx
        have HY := Lib.hid hy
        have HR := HO.out (fun _ => by simp [isCon, hx, hy])
        clear hx hy
        by_cases h24 : 24 < k
        · have HN : Hid (tok1 s.data.toList = none) := Lib.hid (by rw [HT.out, if_pos HL.out, HR.out, if_pos h24])
          go_wp2_with (first | (go_at_call 43; refine (letter_any _ _).mono ?_; rw [HX.out]; rintro e w' ⟨rfl, rfl⟩) | (go_at_call 44; refine (digit_any _ _).mono ?_; rw [HY.out]; rintro e w' ⟨rfl, rfl⟩))
          exact bodyPost_ret (v := .tuple #[.agg (tokA tok0), .int .i64 0]) (by simp [results, Tryd.results34, go_sem, tokA, tok0]) rfl (ret_tok _ _ (tokOk_none HN.out) (by omega) (((Below.refl _ _).alloc (Nat.le_refl _) _)))
        · have HP := Lib.hid (run_pos isCon s h0 (letter_con _ HL.out))
          have HE := Lib.hid (ext0 s k)
          have HK := Lib.hid (take_run isCon s.data.toList)
          have HN : Hid (tok1 s.data.toList = some (⟨1, s.data.toList.takeWhile (pb isCon), 0, [], 0⟩, k)) := Lib.hid (by rw [HT.out, if_pos HL.out, HR.out, if_neg h24])
          go_wp2_with (first | (go_at_call 43; refine (letter_any _ _).mono ?_; rw [HX.out]; rintro e w' ⟨rfl, rfl⟩) | (go_at_call 44; refine (digit_any _ _).mono ?_; rw [HY.out]; rintro e w' ⟨rfl, rfl⟩))
          refine bodyPost_ret (v := .tuple #[.agg (tokA ⟨1, s.data.toList.takeWhile (pb isCon), 0, [], 0⟩), .int .i64 k]) ?_ rfl (ret_tok _ _ (tokOk_some HN.out (HR.out ▸ HP.out) (by rw [HLen.out]; omega)) (by omega) (((Below.refl _ _).alloc (Nat.le_refl _) _)))
          have h9 := HK.out
          rw [HR.out] at h9
          simp [results, Tryd.results34, go_sem, tokA, HE.out, h9]
    · have HR := HO.out (fun h => absurd h hlt)
      clear hcc
      by_cases h24 : 24 < k
      · have HN : Hid (tok1 s.data.toList = none) := Lib.hid (by rw [HT.out, if_pos HL.out, HR.out, if_pos h24])
        go_wp2_with fail
        exact bodyPost_ret (v := .tuple #[.agg (tokA tok0), .int .i64 0]) (by simp [results, Tryd.results34, go_sem, tokA, tok0]) rfl (ret_tok _ _ (tokOk_none HN.out) (by omega) (((Below.refl _ _).alloc (Nat.le_refl _) _)))
      · have HP := Lib.hid (run_pos isCon s h0 (letter_con _ HL.out))
        have HE := Lib.hid (ext0 s k)
        have HK := Lib.hid (take_run isCon s.data.toList)
        have HN : Hid (tok1 s.data.toList = some (⟨1, s.data.toList.takeWhile (pb isCon), 0, [], 0⟩, k)) := Lib.hid (by rw [HT.out, if_pos HL.out, HR.out, if_neg h24])
        go_wp2_with fail
        refine bodyPost_ret (v := .tuple #[.agg (tokA ⟨1, s.data.toList.takeWhile (pb isCon), 0, [], 0⟩), .int .i64 k]) ?_ rfl (ret_tok _ _ (tokOk_some HN.out (HR.out ▸ HP.out) (by rw [HLen.out]; omega)) (by omega) (((Below.refl _ _).alloc (Nat.le_refl _) _)))
        have h9 := HK.out
        rw [HR.out] at h9
        simp [results, Tryd.results34, go_sem, tokA, HE.out, h9]

set_option maxRecDepth 100000 in
set_option maxHeartbeats 1000000 in
theorem token_digit (s : ByteArray) (w : World) (hs : s.size ≤ maxLen) (h0 : 0 < s.size) (hl : isDig s[0].toNat = true) :
    Calls Tryd.prog 34 #[.string s] w (RetTok s.data.toList w) := by
  have HC : Hid (∀ w, Calls Tryd.prog 55 #[.string s] w fun e w' => e = .returned (.tuple #[.int .i64 (intR s.data.toList).1, .int .i64 (intR s.data.toList).2]) ∧ w = w') := Lib.hid (fun w => integer_any s w hs h0)
  unfold maxLen at hs
  have HL := Lib.hid hl
  have HL2 := Lib.hid (isDig_let _ hl)
  have HN : Hid (TokOk s.data.toList ⟨2, [], (intR s.data.toList).1, [], 0⟩ (intR s.data.toList).2 ∧ 0 ≤ (intR s.data.toList).2) := by
    have h1 := tok1_at s h0
    rw [if_neg (by rw [HL2.out]; simp), if_pos hl] at h1
    have hp := run_pos isDig s h0 hl
    have hle := run_le isDig s.data.toList
    refine Lib.hid ?_
    unfold intR
    cases ht : intTok s.data.toList with
    | none => rw [ht] at h1; exact ⟨tokOk_none h1, by simp⟩
    | some x =>
      obtain ⟨v, n⟩ := x
      have hn : n = run isDig s.data.toList := by
        unfold intTok at ht
        split at ht
        · cases ht
        · cases hg : numGo (s.data.toList.takeWhile (pb isDig)) 0 with
          | none => rw [hg] at ht; cases ht
          | some m => rw [hg] at ht; simp at ht; exact ht.2.symm
      rw [ht] at h1
      exact ⟨tokOk_some (t := ⟨2, [], v, [], 0⟩) h1 (by omega) (by omega), by simp⟩
  clear hl
  go_enter Tryd.func34, Tryd.ntmps34
  go_wp2_with (first | (go_at_call 43; refine (letter_any _ _).mono ?_; rw [HL2.out]; rintro e w' ⟨rfl, rfl⟩) | (go_at_call 44; refine (digit_any _ _).mono ?_; rw [HL.out]; rintro e w' ⟨rfl, rfl⟩) | (go_at_call 55; refine (HC.out _).mono ?_; rintro e w' ⟨rfl, rfl⟩))
  refine bodyPost_ret (v := .tuple #[.agg (tokA ⟨2, [], (intR s.data.toList).1, [], 0⟩), .int .i64 (intR s.data.toList).2]) ?_ rfl (ret_tok _ _ HN.out.1 HN.out.2 (((Below.refl _ _).alloc (Nat.le_refl _) _)))
  simp [results, Tryd.results34, go_sem, tokA]

set_option maxRecDepth 100000 in
set_option maxHeartbeats 1000000 in
theorem token_quote (s : ByteArray) (w : World) (hs : s.size ≤ maxLen) (hr : s.size ≤ 140737488355328) (h0 : 0 < s.size) (hl : (s[0].toNat : Int) = 34) :
    Calls Tryd.prog 34 #[.string s] w (RetTok s.data.toList w) := by
  have HC : Hid (∀ w, Calls Tryd.prog 39 #[.string s] w fun e w' => e = .returned (.tuple #[.string ⟨(litR s.data.toList).1.toArray⟩, .int .i64 (litR s.data.toList).2]) ∧ Below w.heap.size w w') := Lib.hid (fun w => str_any s w hs hr)
  unfold maxLen at hs
  have HR := Lib.hid (litR_rng s.data.toList)
  have hlen : s.data.toList.length = s.size := by simp
  have HT := Lib.hid (tok1_at s h0)
  have HL1 := Lib.hid (q_let _ hl).1
  have HL2 := Lib.hid (q_let _ hl).2
  have HQ := Lib.hid hl
  have x1 : ((s[0].toNat : Int) == 34) = true := by simp [hl]
  have HLen := Lib.hid hlen
  clear hl hlen
  have HN : Hid (TokOk s.data.toList ⟨3, [], 0, (litR s.data.toList).1, 0⟩ (litR s.data.toList).2) := by
    refine Lib.hid ?_
    have h1 := HT.out
    rw [if_neg (by rw [HL1.out]; simp), if_neg (by rw [HL2.out]; simp), if_pos HQ.out] at h1
    obtain ⟨r1, r2, r3⟩ := HR.out
    by_cases hz : (litR s.data.toList).2 = 0
    · rw [if_pos hz] at h1; rw [hz]; exact tokOk_none h1
    · rw [if_neg hz] at h1
      obtain ⟨m, hm⟩ := Int.eq_ofNat_of_zero_le r1
      rw [hm] at h1 ⊢
      refine tokOk_some h1 (by omega) ?_
      rw [hm] at r2; exact_mod_cast r2
  clear HT
  go_enter Tryd.func34, Tryd.ntmps34
  go_wp2_with (first | (go_at_call 43; refine (letter_any _ _).mono ?_; rw [HL1.out]; rintro e w' ⟨rfl, rfl⟩) | (go_at_call 44; refine (digit_any _ _).mono ?_; rw [HL2.out]; rintro e w' ⟨rfl, rfl⟩))
  refine (HC.out _).mono ?_
  rintro e w1 ⟨rfl, hb⟩
  obtain ⟨hc, hf⟩ := bcell hb
  have HB := Lib.hid hb
  have hz : w.heap.size < w1.heap.size := by have := hb.size; simp at this; omega
  clear hb
  go_wp2_with fail
  refine bodyPost_ret (v := .tuple #[.agg (tokA ⟨3, [], 0, (litR s.data.toList).1, 0⟩), .int .i64 (litR s.data.toList).2]) ?_ rfl (ret_tok _ _ HN.out HR.out.1 ?_)
  · simp [results, Tryd.results34, go_sem, tokA, hc]
  · exact ((((((Below.refl _ _).alloc (Nat.le_refl _) _).trans (HB.out.mono (by simp))).setCell (Nat.le_refl _) _).setCell (Nat.le_refl _) _).setCell (Nat.le_refl _) _).setCell (Nat.le_refl _) _ |>.setCell (Nat.le_refl _) _
theorem sym_ex : ∀ n : Fin 256, isSym n.val = true ↔ ∃ k : Fin 18, (((ByteArray.mk #[123, 125, 40, 41, 91, 93, 44, 59, 58, 61, 47, 43, 45, 60, 62, 124, 38, 42])[k.val]'(k.isLt)).toNat : Int) = n.val := by decide +kernel
theorem sym_yes (c : UInt8) (k : Nat) (hk : k < 18) (h : (((ByteArray.mk #[123, 125, 40, 41, 91, 93, 44, 59, 58, 61, 47, 43, 45, 60, 62, 124, 38, 42])[k]'hk).toNat : Int) = c.toNat) : isSym c.toNat = true :=
  (sym_ex ⟨c.toNat, c.toNat_lt⟩).2 ⟨⟨k, hk⟩, h⟩
theorem sym_no (c : UInt8) (h : ∀ k, (hk : k < 18) → (((ByteArray.mk #[123, 125, 40, 41, 91, 93, 44, 59, 58, 61, 47, 43, 45, 60, 62, 124, 38, 42])[k]'hk).toNat : Int) ≠ c.toNat) : isSym c.toNat = false := by
  cases hs : isSym c.toNat
  · rfl
  · obtain ⟨k, hk⟩ := (sym_ex ⟨c.toNat, c.toNat_lt⟩).1 hs
    exact absurd hk (h k.val k.isLt)
set_option maxRecDepth 100000 in
set_option maxHeartbeats 1000000 in
theorem token_other (s : ByteArray) (w : World) (hs : s.size ≤ maxLen) (h0 : 0 < s.size) (hl : isLet s[0].toNat = false) (hd : isDig s[0].toNat = false) (hq : (s[0].toNat : Int) ≠ 34) :
    Calls Tryd.prog 34 #[.string s] w (RetTok s.data.toList w) := by
  unfold maxLen at hs
  have HT : Hid (tok1 s.data.toList = if isSym s[0].toNat then some (⟨4, [s[0]], 0, [], 0⟩, 1) else none) := Lib.hid (by
    rw [tok1_at s h0, if_neg (by rw [hl]; simp), if_neg (by rw [hd]; simp), if_neg hq])
  have HL1 := Lib.hid hl
  have HL2 := Lib.hid hd
  have HE := Lib.hid (take1 s h0)
  have x1 : ((s[0].toNat : Int) == 34) = false := by simp [hq]
  clear hl hd hq
  have hlen : 1 ≤ s.data.toList.length := by simp; omega
  have HLen := Lib.hid hlen
  clear hlen
  go_enter Tryd.func34, Tryd.ntmps34
  go_wp2_with (first | (go_at_call 43; refine (letter_any _ _).mono ?_; rw [HL1.out]; rintro e w' ⟨rfl, rfl⟩) | (go_at_call 44; refine (digit_any _ _).mono ?_; rw [HL2.out]; rintro e w' ⟨rfl, rfl⟩))
  go_loopw [9] (fun i wr => ∃ k n : Nat, i = .int .i64 k ∧ k ≤ 18 ∧ wr = (w.alloc (.cells #[.int .i64 0, .string ⟨#[]⟩, .int .i64 0, .string ⟨#[]⟩, .int .i64 0] 33)).drewN n ∧ (∀ j, (hj : j < 18) → j < k → (((ByteArray.mk #[123, 125, 40, 41, 91, 93, 44, 59, 58, 61, 47, 43, 45, 60, 62, 124, 38, 42])[j]'hj).toNat : Int) ≠ s[0].toNat)) (fun i _ => 18 - (intOf i).toNat)
  case atStart => exact ⟨0, 0, rfl, by omega, rfl, by intro j hj h; omega⟩
  case round =>
    obtain ⟨k, n, rfl, hk, rfl, hj⟩ := hrel
    have HJ := Lib.hid hj
    clear hj
    by_cases hlt : k < 18
    · have i0 : (0 : Int) < (s.size : Int) := by omega
      have i1 : (0 : Int) ≤ (k : Int) := by omega
      have i2 : (k : Int) < 18 := by omega
      go_wp2_with fail
      go_quiet (fail)
      go_wp2_with fail
      · have hh := beq_iff_eq.1 ‹(_ == (s[0].toNat : Int)) = true›
        have HN : Hid (tok1 s.data.toList = some (⟨4, [s[0]], 0, [], 0⟩, 1)) := Lib.hid (by rw [HT.out, sym_yes s[0] k hlt hh]; rfl)
        refine bodyPost_ret (v := .tuple #[.agg (tokA ⟨4, [s[0]], 0, [], 0⟩), .int .i64 1]) ?_ rfl (ret_tok _ _ (tokOk_some (m := 1) HN.out (by omega) HLen.out) (by omega) ?_)
        · simp [results, Tryd.results34, go_sem, tokA, HE.out]
          rfl
        · have h9 : Below w.heap.size w ((w.alloc (.cells #[.int .i64 0, .string ⟨#[]⟩, .int .i64 0, .string ⟨#[]⟩, .int .i64 0] 33)).drewN (n + nq)) := below_drewN ((Below.refl _ _).alloc (Nat.le_refl _) _) _
          exact ((((h9.setCell (Nat.le_refl _) _).setCell (Nat.le_refl _) _).setCell (Nat.le_refl _) _).setCell (Nat.le_refl _) _).setCell (Nat.le_refl _) _
      · have hh := beq_eq_false_iff_ne.1 ‹(_ == (s[0].toNat : Int)) = false›
        go_roundw
        case rel =>
          refine ⟨k + 1, _, by go_num, by omega, rfl, fun j hj h => ?_⟩
          rcases Nat.lt_or_ge j k with h1 | h1
          · exact HJ.out j hj h1
          · obtain rfl : j = k := by omega
            exact hh
        case measure => simp [intOf]; omega
    · have HN : Hid (tok1 s.data.toList = none) := Lib.hid (by rw [HT.out, sym_no s[0] (fun j hj => HJ.out j hj (by omega))]; rfl)
      go_wp2_with fail
      refine bodyPost_ret (v := .tuple #[.agg (tokA tok0), .int .i64 0]) ?_ rfl (ret_tok _ _ (tokOk_none HN.out) (by omega) ?_)
      · simp [results, Tryd.results34, go_sem, tokA, tok0]
      · have h9 : Below w.heap.size w ((w.alloc (.cells #[.int .i64 0, .string ⟨#[]⟩, .int .i64 0, .string ⟨#[]⟩, .int .i64 0] 33)).drewN n) := below_drewN ((Below.refl _ _).alloc (Nat.le_refl _) _) _
        exact ((((h9.setCell (Nat.le_refl _) _).setCell (Nat.le_refl _) _).setCell (Nat.le_refl _) _).setCell (Nat.le_refl _) _).setCell (Nat.le_refl _) _
theorem token_any (s : ByteArray) (w : World) (hs : s.size ≤ maxLen) (hr : s.size ≤ 140737488355328) (h0 : 0 < s.size) :
    Calls Tryd.prog 34 #[.string s] w (RetTok s.data.toList w) := by
  cases hl : isLet s[0].toNat
  · cases hd : isDig s[0].toNat
    · by_cases hq : (s[0].toNat : Int) = 34
      · exact token_quote s w hs hr h0 hq
      · exact token_other s w hs h0 hl hd hq
    · exact token_digit s w hs h0 hd
  · exact token_letter s w hs h0 hl
end Go.Proofs.YtdjpnncehlmehaaDoor
