/- The contract of the reference's Tokens. -/
import Derived.Test.YtdjpnncehlmehaaDoorH
namespace Go.Proofs.YtdjpnncehlmehaaDoor
open Go.RowKit

theorem toks_white (s : ByteArray) (k : Nat) (hk : k < s.size) (n : Int) (acc : List Tok) (h : isSp s[k].toNat = true) :
    toks (s.data.toList.drop k) n acc = toks (s.data.toList.drop (k + 1)) (if (s[k].toNat : Int) = 10 then n + 1 else n) acc := by
  rw [drop_at s k hk, toks]
  simp only [h, if_true]
  congr 1
  have : ((s[k].toNat : Int) = 10) ↔ s[k] = 10 := u8_int s[k] 10 (by omega)
  by_cases hc : s[k] = 10
  · rw [if_pos (by simp [hc]), if_pos (this.2 hc)]
  · rw [if_neg (by simp [hc]), if_neg (fun e => hc (this.1 e))]
theorem toks_cc (s : ByteArray) (k : Nat) (hk : k + 1 < s.size) (n : Int) (acc : List Tok) (h : (s[k].toNat : Int) = 47) (h' : (s[k + 1].toNat : Int) = 47) :
    toks (s.data.toList.drop k) n acc = toks ((s.data.toList.drop k).dropWhile notNl) n acc := by
  have e1 := (u8_int s[k] 47 (by omega)).1 h
  have e2 := (u8_int s[k + 1] 47 (by omega)).1 h'
  have e3 : s[k] = 47 := e1
  rw [drop_at s k (by omega), e3, toks_comment _ n acc (by rw [drop_at s (k + 1) hk]; simp; exact e2), List.dropWhile_cons_of_pos (by rfl)]
theorem not_cc (s : ByteArray) (k : Nat) (hk : k < s.size) (h : (s[k].toNat : Int) ≠ 47 ∨ (∀ h' : k + 1 < s.size, (s[k + 1].toNat : Int) ≠ 47)) : Lib.hasPrefix (s.data.toList.drop k) [47, 47] = false := by
  rw [drop_at s k hk, prefix_cons]
  rcases h with h | h
  · have : (s[k] == 47) = false := by rw [beq_eq_false_iff_ne]; exact fun e => h ((u8_int s[k] 47 (by omega)).2 e)
    rw [this]; rfl
  · have : ((s.data.toList.drop (k + 1)).head? == some 47) = false := by
      by_cases h' : k + 1 < s.size
      · rw [drop_at s (k + 1) h']
        have := h h'
        rw [List.head?_cons, show (some s[k + 1] == some (47 : UInt8)) = (s[k + 1] == 47) from rfl, beq_eq_false_iff_ne]
        exact fun e => this ((u8_int s[k + 1] 47 (by omega)).2 e)
      · rw [List.drop_eq_nil_of_le (by simp; omega)]; rfl
    rw [this, Bool.and_false]
theorem dropNl_step (s : ByteArray) (j : Nat) (hj : j < s.size) (h : (s[j].toNat : Int) ≠ 10) : (s.data.toList.drop j).dropWhile notNl = (s.data.toList.drop (j + 1)).dropWhile notNl := by
  rw [drop_at s j hj, List.dropWhile_cons_of_pos]
  simp only [notNl, bne_iff_ne]
  exact fun e => h ((u8_int s[j] 10 (by omega)).2 e)
theorem dropNl_stop (s : ByteArray) (j : Nat) (h : ∀ hj : j < s.size, (s[j].toNat : Int) = 10) : (s.data.toList.drop j).dropWhile notNl = s.data.toList.drop j := by
  by_cases hj : j < s.size
  · rw [drop_at s j hj, List.dropWhile_cons_of_neg]
    have := (u8_int s[j] 10 (by omega)).1 (h hj)
    have e : s[j] = 10 := this
    simp [notNl, e]
  · rw [List.drop_eq_nil_of_le (by simp; omega)]; rfl
theorem cell_new (W : World) (cs : List Value) (T : TypeId) (b : Nat) (hb : b = W.heap.size) : ∀ j u, cs[j]? = some u → (W.alloc (.cells cs.toArray T)).cell? ((⟨b, 0, none⟩ : Addr).add j) = some u := by
  intro j u h
  subst hb
  rw [show ((⟨W.heap.size, 0, none⟩ : Addr).add j) = ⟨W.heap.size, j, none⟩ from by unfold Addr.add; split <;> simp_all]
  have h1 : (W.alloc (.cells cs.toArray T)).heap[W.heap.size]? = some (.cells cs.toArray T) := by
    show (W.heap.push _)[W.heap.size]? = _
    simp
  simp only [World.cell?]
  rw [h1]
  simpa using h
/-- toks_at_tok, from the k-th byte on -/
theorem toks_tok_at (s : ByteArray) (k : Nat) (hk : k < s.size) (line : Int) (acc : List Tok) (hs : isSp s[k].toNat = false) (h : Lib.hasPrefix (s.data.toList.drop k) [47, 47] = false) (t : Tok) (m : Nat) (ht : TokOk (s.data.toList.drop k) t m) :
    (m = 0 ∧ toks (s.data.toList.drop k) line acc = .error line) ∨ (1 ≤ m ∧ k + m ≤ s.size ∧ toks (s.data.toList.drop k) line acc = toks (s.data.toList.drop (k + m)) line (acc ++ [{ t with line := line }])) := by
  have h1 := toks_at_tok (s.extract k s.size) (by simp; omega) line acc (by simp only [ByteArray.getElem_extract]; exact hs) (by rw [tail_of]; exact h) t m (by rw [tail_of]; exact ht)
  rw [tail_of] at h1
  rcases h1 with h1 | ⟨a, b, c⟩
  · exact .inl h1
  · refine .inr ⟨a, ?_, ?_⟩
    · simp at b; omega
    · rw [c, List.drop_drop]

set_option maxRecDepth 100000 in
set_option maxHeartbeats 2000000 in
theorem refTokens_any (s : ByteArray) (w : World) (hs : s.size ≤ 65536) :
    Calls Tryd.prog 12 #[.string s] w (RetToks s.data.toList w) := by
  obtain ⟨i0, hi, hz0, hz1, hz2⟩ := info_parts info33
  have HI := Lib.hid hi
  have HZ0 := Lib.hid hz0
  have HZ1 := Lib.hid hz1
  have HZ2 := Lib.hid hz2
  clear hi hz0 hz1 hz2
  go_enter Tryd.func12, Tryd.ntmps12
  go_wp2_with fail
  go_loopw [5, 6, 7] (fun o ln i wr => ∃ (k : Nat) (n : Int) (acc : List Tok), i = .int .i64 k ∧ k ≤ s.size ∧ ln = .int .i64 n ∧ TokRel s w (s.data.toList.drop k) o n acc wr) (fun _ _ i _ => s.size - (intOf i).toNat)
  case atStart => exact ⟨0, 1, [], rfl, by omega, rfl, by omega, by simp; omega, by simp, World.ownsRow_nil _ _ _ _, Below.refl _ _, Nat.le_refl _, rfl⟩
  case round =>
    obtain ⟨k, n, acc, rfl, hk, rfl, hrel⟩ := hrel
    have HREL := Lib.hid hrel
    obtain ⟨h1, h2, h3, hown, hb, hge, hf⟩ := hrel
    rw [List.length_drop, len_data] at h2 h3
    have HO := Lib.hid hown
    have HB := Lib.hid hb
    have HF := Lib.hid hf
    clear hown hb hf
    by_cases hlt : k < s.size
    · cases hsp : isSp s[k].toNat
      · have HSP := Lib.hid hsp
        by_cases hcc : ∃ h : k + 1 < s.size, (s[k].toNat : Int) = 47 ∧ (s[k + 1].toNat : Int) = 47
        · obtain ⟨hk1, ha, hb⟩ := hcc
          have HTK := Lib.hid (toks_cc s k hk1 n acc ha hb)
          have x1 : ((s[k].toNat : Int) == 47) = true := by simp [ha]
          have x2 : ((s[k + 1].toNat : Int) == 47) = true := by simp [hb]
          have HA := Lib.hid ha
          clear ha hb hsp
          go_wp2_with (first | (go_at_call 33; refine (white_any _ _).mono ?_; rw [HSP.out]; rintro e w' ⟨rfl, rfl⟩))
          obtain ⟨wo, rfl⟩ : ∃ wo : World, wo = wr := ⟨_, rfl⟩
          go_loop [7] (fun i => ∃ j : Nat, i = .int .i64 j ∧ k ≤ j ∧ j ≤ s.size ∧ (s.data.toList.drop k).dropWhile notNl = (s.data.toList.drop j).dropWhile notNl) (fun i => s.size - (intOf i).toNat)
          case atStart => exact ⟨k, rfl, by omega, by omega, rfl⟩
          case round =>
            obtain ⟨j, rfl, hkj, hjs, hd⟩ := hrel
            have HD := Lib.hid hd
            clear hd
            by_cases hjl : j < s.size
            · by_cases hnl : (s[j].toNat : Int) = 10
              · have x3 : ((s[j].toNat : Int) != 10) = false := by simp [hnl]
                have HS := Lib.hid (dropNl_stop s j (fun _ => hnl))
                have hjk : k < j := by
                  rcases Nat.lt_or_ge k j with h | h
                  · exact h
                  · exfalso
                    obtain rfl : j = k := by omega
                    rw [HA.out] at hnl; omega
                clear hnl
                go_wp2_with fail
                go_roundw
                case rel =>
                  exact ⟨j, n, acc, rfl, by omega, rfl, tokRel_next HREL.out (Below.refl _ _) (by omega) (by simp; omega) (by simp; omega) (by rw [HTK.out, HD.out, HS.out])⟩
                case measure => simp [intOf]; omega
              · have x3 : ((s[j].toNat : Int) != 10) = true := by rw [bne_iff_ne]; exact hnl
                have HS := Lib.hid (dropNl_step s j hjl hnl)
                clear hnl
                go_wp2_with fail
                go_round
                case rel => exact ⟨j + 1, by go_num, by omega, by omega, by rw [HD.out, HS.out]⟩
                case measure => simp [intOf]; omega
            · have HS := Lib.hid (dropNl_stop s j (fun h => absurd h hjl))
              go_wp2_with fail
              go_roundw
              case rel =>
                exact ⟨j, n, acc, rfl, by omega, rfl, tokRel_next HREL.out (Below.refl _ _) (by omega) (by simp; omega) (by simp; omega) (by rw [HTK.out, HD.out, HS.out])⟩
              case measure => simp [intOf]; omega
        · have hno : (s[k].toNat : Int) ≠ 47 ∨ ((s[k].toNat : Int) = 47 ∧ s.size ≤ k + 1) ∨ (∃ h : k + 1 < s.size, (s[k].toNat : Int) = 47 ∧ (s[k + 1].toNat : Int) ≠ 47) := by
            by_cases ha : (s[k].toNat : Int) = 47
            · by_cases hk1 : k + 1 < s.size
              · exact .inr (.inr ⟨hk1, ha, fun hb => hcc ⟨hk1, ha, hb⟩⟩)
              · exact .inr (.inl ⟨ha, by omega⟩)
            · exact .inl ha
          have hnp : Lib.hasPrefix (s.data.toList.drop k) [47, 47] = false := not_cc s k hlt (by
            rcases hno with h | ⟨_, h⟩ | ⟨_, _, h⟩
            · exact .inl h
            · exact .inr (fun h' => by omega)
            · exact .inr (fun _ => h))
          have HTK := Lib.hid (toks_tok_at s k hlt n acc hsp hnp)
          clear hsp hnp hcc
          rcases hno with ha | ⟨ha, hk1⟩ | ⟨hk1, ha, hb⟩
          · have x1 : ((s[k].toNat : Int) == 47) = false := by simp [ha]
            clear ha
            go_wp2_with (first | (go_at_call 33; refine (white_any _ _).mono ?_; rw [HSP.out]; rintro e w' ⟨rfl, rfl⟩))
            refine (token_any _ _ (by simp [maxLen]; omega) (by simp; omega) (by simp; omega)).mono ?_
            rintro e w1 ⟨⟨kd, tx, it, st, l0⟩, m, rfl, htk, hm0, hb1⟩
            simp only [tokA]
            rw [tail_of] at htk
            obtain ⟨m, rfl⟩ := Int.eq_ofNat_of_zero_le hm0
            have hz1 := hb1.size
            have HB1 := Lib.hid hb1
            rcases HTK.out _ m htk with ⟨hk0, htk1⟩ | ⟨hm1, hm2, htk1⟩
            · have hkz : ((m : Int) == 0) = true := by simp [hk0]
              have HT1 := Lib.hid htk1
              clear htk htk1 hb1 hk0
              go_wp2_with fail
              go_ret3
              refine ret_toks none 0 [] n 2 (toksR_err s hs n (by rw [HF.out, HT1.out])) (Rd.nil _ _ _) ?_
              exact (HB.out.trans (HB1.out.mono hge)).alloc (Nat.le_trans hge hz1) _
            · have hkz : ((m : Int) == 0) = false := by rw [beq_eq_false_iff_ne]; omega
              have HT1 := Lib.hid htk1
              have HO1 := Lib.hid (ownsRow_below HO.out HB1.out)
              clear htk htk1 hb1
              go_wp2_with (at_builtin; refine wpList_append_own _ rfl _ _ 23 rfl w.heap.size 33 i0 _ 5 56 Tryd.underlying23 HI.out HZ0.out HZ1.out HZ2.out rfl (by decide) _ _ _ rfl ((HO1.out.alloc _).alloc _) ⟨w1.heap.size + 1, 0, none⟩ 1 1 [.int .i64 kd, .string ⟨tx.toArray⟩, .int .i64 it, .string ⟨st.toArray⟩, .int .i64 n] rfl rfl (cell_new _ _ _ _ (by simp)) (by simp [Value.oneCell']) (by simp [maxLen]; omega) (by omega) (by simp; omega) ?_)
              intro v' w2 hown' hgrow _
              have HO2 := Lib.hid hown'
              have HG2 := Lib.hid hgrow
              clear hown' hgrow
              go_wp2_with fail
              go_roundw
              case rel =>
                refine ⟨k + m, n, acc ++ [⟨kd, tx, it, st, n⟩], by go_num, by omega, rfl, ?_⟩
                refine ⟨h1, by simp; omega, by simp; omega, ?_, ?_, ?_, ?_⟩
                · rw [toksC_snoc, List.length_append]; exact HO2.out
                · exact below_grown (((HB.out.trans (HB1.out.mono hge)).alloc (Nat.le_trans hge hz1) _).alloc (by simp; omega) _) (by simp; omega) HG2.out (fun g hg => (HO1.out.lt g hg).1)
                · have := HG2.out.size; simp at this; omega
                · rw [HF.out, HT1.out]
              case measure => simp [intOf]; omega
          · have x1 : ((s[k].toNat : Int) == 47) = true := by simp [ha]
            clear ha
            go_wp2_with (first | (go_at_call 33; refine (white_any _ _).mono ?_; rw [HSP.out]; rintro e w' ⟨rfl, rfl⟩))
            refine (token_any _ _ (by simp [maxLen]; omega) (by simp; omega) (by simp; omega)).mono ?_
            rintro e w1 ⟨⟨kd, tx, it, st, l0⟩, m, rfl, htk, hm0, hb1⟩
            simp only [tokA]
            rw [tail_of] at htk
            obtain ⟨m, rfl⟩ := Int.eq_ofNat_of_zero_le hm0
            have hz1 := hb1.size
            have HB1 := Lib.hid hb1
            rcases HTK.out _ m htk with ⟨hk0, htk1⟩ | ⟨hm1, hm2, htk1⟩
            · have hkz : ((m : Int) == 0) = true := by simp [hk0]
              have HT1 := Lib.hid htk1
              clear htk htk1 hb1 hk0
              go_wp2_with fail
              go_ret3
              refine ret_toks none 0 [] n 2 (toksR_err s hs n (by rw [HF.out, HT1.out])) (Rd.nil _ _ _) ?_
              exact (HB.out.trans (HB1.out.mono hge)).alloc (Nat.le_trans hge hz1) _
            · have hkz : ((m : Int) == 0) = false := by rw [beq_eq_false_iff_ne]; omega
              have HT1 := Lib.hid htk1
              have HO1 := Lib.hid (ownsRow_below HO.out HB1.out)
              clear htk htk1 hb1
              go_wp2_with (at_builtin; refine wpList_append_own _ rfl _ _ 23 rfl w.heap.size 33 i0 _ 5 56 Tryd.underlying23 HI.out HZ0.out HZ1.out HZ2.out rfl (by decide) _ _ _ rfl ((HO1.out.alloc _).alloc _) ⟨w1.heap.size + 1, 0, none⟩ 1 1 [.int .i64 kd, .string ⟨tx.toArray⟩, .int .i64 it, .string ⟨st.toArray⟩, .int .i64 n] rfl rfl (cell_new _ _ _ _ (by simp)) (by simp [Value.oneCell']) (by simp [maxLen]; omega) (by omega) (by simp; omega) ?_)
              intro v' w2 hown' hgrow _
              have HO2 := Lib.hid hown'
              have HG2 := Lib.hid hgrow
              clear hown' hgrow
              go_wp2_with fail
              go_roundw
              case rel =>
                refine ⟨k + m, n, acc ++ [⟨kd, tx, it, st, n⟩], by go_num, by omega, rfl, ?_⟩
                refine ⟨h1, by simp; omega, by simp; omega, ?_, ?_, ?_, ?_⟩
                · rw [toksC_snoc, List.length_append]; exact HO2.out
                · exact below_grown (((HB.out.trans (HB1.out.mono hge)).alloc (Nat.le_trans hge hz1) _).alloc (by simp; omega) _) (by simp; omega) HG2.out (fun g hg => (HO1.out.lt g hg).1)
                · have := HG2.out.size; simp at this; omega
                · rw [HF.out, HT1.out]
              case measure => simp [intOf]; omega
          · have x1 : ((s[k].toNat : Int) == 47) = true := by simp [ha]
            have x2 : ((s[k + 1].toNat : Int) == 47) = false := by simp [hb]
            clear ha hb
            go_wp2_with (first | (go_at_call 33; refine (white_any _ _).mono ?_; rw [HSP.out]; rintro e w' ⟨rfl, rfl⟩))
            refine (token_any _ _ (by simp [maxLen]; omega) (by simp; omega) (by simp; omega)).mono ?_
            rintro e w1 ⟨⟨kd, tx, it, st, l0⟩, m, rfl, htk, hm0, hb1⟩
            simp only [tokA]
            rw [tail_of] at htk
            obtain ⟨m, rfl⟩ := Int.eq_ofNat_of_zero_le hm0
            have hz1 := hb1.size
            have HB1 := Lib.hid hb1
            rcases HTK.out _ m htk with ⟨hk0, htk1⟩ | ⟨hm1, hm2, htk1⟩
            · have hkz : ((m : Int) == 0) = true := by simp [hk0]
              have HT1 := Lib.hid htk1
              clear htk htk1 hb1 hk0
              go_wp2_with fail
              go_ret3
              refine ret_toks none 0 [] n 2 (toksR_err s hs n (by rw [HF.out, HT1.out])) (Rd.nil _ _ _) ?_
              exact (HB.out.trans (HB1.out.mono hge)).alloc (Nat.le_trans hge hz1) _
            · have hkz : ((m : Int) == 0) = false := by rw [beq_eq_false_iff_ne]; omega
              have HT1 := Lib.hid htk1
              have HO1 := Lib.hid (ownsRow_below HO.out HB1.out)
              clear htk htk1 hb1
              go_wp2_with (at_builtin; refine wpList_append_own _ rfl _ _ 23 rfl w.heap.size 33 i0 _ 5 56 Tryd.underlying23 HI.out HZ0.out HZ1.out HZ2.out rfl (by decide) _ _ _ rfl ((HO1.out.alloc _).alloc _) ⟨w1.heap.size + 1, 0, none⟩ 1 1 [.int .i64 kd, .string ⟨tx.toArray⟩, .int .i64 it, .string ⟨st.toArray⟩, .int .i64 n] rfl rfl (cell_new _ _ _ _ (by simp)) (by simp [Value.oneCell']) (by simp [maxLen]; omega) (by omega) (by simp; omega) ?_)
              intro v' w2 hown' hgrow _
              have HO2 := Lib.hid hown'
              have HG2 := Lib.hid hgrow
              clear hown' hgrow
              go_wp2_with fail
              go_roundw
              case rel =>
                refine ⟨k + m, n, acc ++ [⟨kd, tx, it, st, n⟩], by go_num, by omega, rfl, ?_⟩
                refine ⟨h1, by simp; omega, by simp; omega, ?_, ?_, ?_, ?_⟩
                · rw [toksC_snoc, List.length_append]; exact HO2.out
                · exact below_grown (((HB.out.trans (HB1.out.mono hge)).alloc (Nat.le_trans hge hz1) _).alloc (by simp; omega) _) (by simp; omega) HG2.out (fun g hg => (HO1.out.lt g hg).1)
                · have := HG2.out.size; simp at this; omega
                · rw [HF.out, HT1.out]
              case measure => simp [intOf]; omega
      · have HTK := Lib.hid (toks_white s k hlt n acc hsp)
        have HSP := Lib.hid hsp
        clear hsp
        by_cases hc : (s[k].toNat : Int) = 10
        · have x1 : ((s[k].toNat : Int) == 10) = true := by simp [hc]
          have HC := Lib.hid hc
          clear hc
          go_wp2_with (first | (go_at_call 33; refine (white_any _ _).mono ?_; rw [HSP.out]; rintro e w' ⟨rfl, rfl⟩))
          go_roundw
          case rel =>
            exact ⟨k + 1, n + 1, acc, by go_num, by omega, rfl, tokRel_next HREL.out (Below.refl _ _) (by omega) (by simp; omega) (by simp; omega) (by rw [HTK.out, if_pos HC.out])⟩
          case measure => simp [intOf]; omega
        · have x1 : ((s[k].toNat : Int) == 10) = false := by simp [hc]
          have HC := Lib.hid hc
          clear hc
          go_wp2_with (first | (go_at_call 33; refine (white_any _ _).mono ?_; rw [HSP.out]; rintro e w' ⟨rfl, rfl⟩))
          go_roundw
          case rel =>
            exact ⟨k + 1, n, acc, by go_num, by omega, rfl, tokRel_next HREL.out (Below.refl _ _) (by omega) (by simp; omega) (by simp; omega) (by rw [HTK.out, if_neg HC.out])⟩
          case measure => simp [intOf]; omega
    · have HE : Hid (s.data.toList.drop k = []) := Lib.hid (List.drop_eq_nil_of_le (by simp; omega))
      have HF2 := Lib.hid (toksR_ok s hs acc (by rw [HF.out, HE.out]; rw [toks]))
      obtain ⟨A, c, hv⟩ := ownsRow_form HO.out
      subst hv
      go_wp2_with fail
      go_ret3
      exact ret_toks A c acc 0 0 HF2.out (Rd.own HO.out) HB.out
end Go.Proofs.YtdjpnncehlmehaaDoor
