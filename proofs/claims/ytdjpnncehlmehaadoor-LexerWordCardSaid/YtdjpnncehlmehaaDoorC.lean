/- Contracts of the functions that read a string literal. -/
import Derived.Test.YtdjpnncehlmehaaDoorB
namespace Go.Proofs.YtdjpnncehlmehaaDoor
open Go.RowKit

theorem drop_at (s : ByteArray) (i : Nat) (h : i < s.size) : s.data.toList.drop i = s[i] :: s.data.toList.drop (i + 1) := by
  have h' : i < s.data.toList.length := by simpa using h
  exact List.drop_eq_getElem_cons h'
theorem escR_rng (l : List UInt8) : 0 ≤ (escR l).1 ∧ (escR l).1 < 256 ∧ 0 ≤ (escR l).2 ∧ (escR l).2 ≤ l.length ∧ (escR l).2 ≤ 3 := by
  match l with
  | [] => simp [escR]
  | [c] =>
    have hc := byte_lt c
    simp only [escR]
    by_cases h1 : (c.toNat : Int) = 34 ∨ (c.toNat : Int) = 92
    · rw [if_pos h1]; simp; omega
    · rw [if_neg h1]
      by_cases h2 : (c.toNat : Int) = 110 <;> by_cases h3 : (c.toNat : Int) = 120 <;> simp [h2, h3]
  | [c, a] =>
    have hc := byte_lt c
    simp only [escR]
    by_cases h1 : (c.toNat : Int) = 34 ∨ (c.toNat : Int) = 92
    · rw [if_pos h1]; simp; omega
    · rw [if_neg h1]
      by_cases h2 : (c.toNat : Int) = 110 <;> by_cases h3 : (c.toNat : Int) = 120 <;> simp [h2, h3]
  | c :: a :: b :: r =>
    have hc := byte_lt c
    have ha := hexv_rng a
    have hb := hexv_rng b
    simp only [escR]
    by_cases h1 : (c.toNat : Int) = 34 ∨ (c.toNat : Int) = 92
    · rw [if_pos h1]; simp; omega
    · rw [if_neg h1]
      by_cases h2 : (c.toNat : Int) = 110
      · rw [if_pos h2]; simp; omega
      · rw [if_neg h2]
        by_cases h3 : (c.toNat : Int) = 120
        · rw [if_pos h3]; split <;> simp <;> omega
        · rw [if_neg h3]; simp; omega
theorem chrR_rng (l : List UInt8) : 0 ≤ (chrR l).1 ∧ (chrR l).1 < 256 ∧ 0 ≤ (chrR l).2 ∧ (chrR l).2 ≤ l.length ∧ (chrR l).2 ≤ 4 := by
  match l with
  | [] => simp [chrR]
  | c :: r =>
    have hc := byte_lt c
    have he := escR_rng r
    simp only [chrR]
    by_cases h1 : (c.toNat : Int) < 32 ∨ 126 < (c.toNat : Int) ∨ (c.toNat : Int) = 34
    · rw [if_pos h1]; simp; omega
    · rw [if_neg h1]
      by_cases h2 : (c.toNat : Int) = 92
      · rw [if_neg (by omega)]
        by_cases h3 : (escR r).2 = 0
        · rw [if_pos h3]; simp; omega
        · rw [if_neg h3]; simp; omega
      · rw [if_pos h2]; simp; omega
theorem chrR_cons (c : UInt8) (r : List UInt8) : chrR (c :: r) = (if (c.toNat : Int) < 32 ∨ 126 < (c.toNat : Int) ∨ (c.toNat : Int) = 34 then (0, 0)
    else if (c.toNat : Int) ≠ 92 then (c.toNat, 1)
    else if (escR r).2 = 0 then (0, 0) else ((escR r).1, (escR r).2 + 1) : Int × Int) := rfl
theorem byteCells_snoc (l : List UInt8) (c : Int) (h0 : 0 ≤ c) (h1 : c < 256) : Lib.byteCells l ++ [.int .u8 c] = Lib.byteCells (l ++ [c.toNat.toUInt8]) := by
  obtain ⟨n, rfl⟩ := Int.eq_ofNat_of_zero_le h0
  have : n % 256 = n := Nat.mod_eq_of_lt (by omega)
  simp [Lib.byteCells, this]
theorem litFrom_stop (s : ByteArray) (i : Nat) (acc : List UInt8) (h : i < s.size) (hc : (s[i].toNat : Int) = 34) : litFrom (s.data.toList.drop i) acc i = (acc, (i : Int) + 1) := by
  rw [drop_at s i h, litFrom, if_pos hc]
theorem litFrom_bad (s : ByteArray) (i : Nat) (acc : List UInt8) (h : i < s.size) (hc : (s[i].toNat : Int) ≠ 34) (hn : (chrR (s.data.toList.drop i)).2 = 0) : litFrom (s.data.toList.drop i) acc i = ([], 0) := by
  rw [drop_at s i h] at hn ⊢
  rw [litFrom, if_neg hc, if_pos hn]
theorem litFrom_go (s : ByteArray) (i k : Nat) (acc : List UInt8) (h : i < s.size) (hc : (s[i].toNat : Int) ≠ 34) (hn : (chrR (s.data.toList.drop i)).2 = (k : Int) + 1) :
    litFrom (s.data.toList.drop i) acc i = litFrom (s.data.toList.drop (i + k + 1)) (acc ++ [(chrR (s.data.toList.drop i)).1.toNat.toUInt8]) (i + k + 1) := by
  have e : i + k + 1 = (i + 1) + k := by omega
  rw [e, ← List.drop_drop]
  rw [drop_at s i h] at hn ⊢
  rw [litFrom, if_neg hc, if_neg (by omega), hn]
  have e1 : ((k : Int) + 1).toNat = k + 1 := by omega
  rw [e1, ← e]
  rfl
theorem litFrom_end (s : ByteArray) (i : Nat) (acc : List UInt8) (h : s.size ≤ i) : litFrom (s.data.toList.drop i) acc i = ([], 0) := by
  rw [List.drop_eq_nil_of_le (by simpa using h), litFrom]
theorem ret_si {k : IntKind} {a b : List UInt8} {c d : Int} (h : (a, c) = (b, d)) : Ending.returned (.tuple #[.string ⟨a.toArray⟩, .int k c]) = .returned (.tuple #[.string ⟨b.toArray⟩, .int k d]) := by
  cases h; rfl

theorem flip_same {P : Program} {f : FuncId} {args : Array Value} {w : World} {x : Ending} (h : Calls P f args w fun e w' => e = x ∧ w' = w) : Calls P f args w fun e w' => e = x ∧ w = w' :=
  h.mono fun _ _ ⟨a, b⟩ => ⟨a, b.symm⟩
theorem tail_of (s : ByteArray) (k : Nat) : (s.extract k s.size).data.toList = s.data.toList.drop k := by
  rw [Lib.extract_data, List.take_of_length_le (by simp)]
theorem litR_at (s : ByteArray) (h : 0 < s.size) : litR s.data.toList = if (s[0].toNat : Int) = 34 then litFrom (s.data.toList.drop 1) [] 1 else ([], 0) := by
  conv => lhs; rw [cons1 s h]
  rfl
theorem litR_nil (s : ByteArray) (h : s.size = 0) : litR s.data.toList = ([], 0) := by
  rw [is_empty s h]; rfl
theorem prefix_q (s : ByteArray) : Lib.hasPrefix s.data.toList [34] = (if h : 0 < s.size then decide ((s[0].toNat : Int) = 34) else false) := by
  by_cases h : 0 < s.size
  · rw [dif_pos h]
    conv => lhs; rw [cons1 s h]
    have := u8_int s[0] 34 (by omega)
    simp only [Lib.hasPrefix, List.isPrefixOf, Bool.and_true]
    rw [Bool.eq_iff_iff]
    simp only [beq_iff_eq, decide_eq_true_eq]
    exact ⟨fun e => this.2 e.symm, fun e => (this.1 e).symm⟩
  · rw [dif_neg h, is_empty s (by omega)]; rfl

set_option maxRecDepth 100000 in
set_option maxHeartbeats 1000000 in
theorem literal_any (s : ByteArray) (w : World) (hs : s.size ≤ maxLen) (hr : s.size ≤ 140737488355328) :
    Calls Tryd.prog 38 #[.string s] w fun e w' => e = .returned (.tuple #[.string ⟨(litR s.data.toList).1.toArray⟩, .int .i64 (litR s.data.toList).2]) ∧ Below w.heap.size w w' := by
  unfold maxLen at hs
  have hp := prefix_q s
  by_cases h0 : ∃ h : 0 < s.size, (s[0].toNat : Int) = 34
  · obtain ⟨h0, h1⟩ := h0
    rw [dif_pos h0, h1] at hp
    have HP := Lib.hid hp
    have HL : Hid (litR s.data.toList = litFrom (s.data.toList.drop 1) [] 1) := Lib.hid (by rw [litR_at s h0, if_pos h1])
    have hI := Lib.hid (Lib.fresh_isBuilder 49 5 w)
    clear hp h1
    go_enter Tryd.func38, Tryd.ntmps38
    go_wp2_with fail
    refine (flip_same (Tryd.strings_HasPrefix _ _ _)).mono ?_
    rintro e w' ⟨rfl, rfl⟩
    rw [HP.out]
    go_wp2_with fail
    go_loopw [5] (fun i wr => ∃ (k : Nat) (acc : List UInt8), i = .int .i64 k ∧ k ≤ s.size ∧ acc.length < k ∧ Lib.IsBuilder 49 5 w.heap.size w.heap.size (Lib.byteCells acc) wr ∧ Below w.heap.size w wr ∧ w.heap.size ≤ wr.heap.size ∧ litR s.data.toList = litFrom (s.data.toList.drop k) acc k) (fun i _ => s.size - (intOf i).toNat)
    case atStart => exact ⟨1, [], rfl, by omega, by simp, hI.out, (Below.refl _ _).alloc (Nat.le_refl _) _, by simp, HL.out⟩
    case round =>
      obtain ⟨k, acc, rfl, hk, hacc, hI2, hb, hz, hf⟩ := hrel
      have HI := Lib.hid hI2
      have HB := Lib.hid hb
      have HF := Lib.hid hf
      clear hI hI2 hb hf HL
      have hd : decide True = true := rfl
      by_cases hlt : k < s.size
      · by_cases hc : (s[k].toNat : Int) = 34
        · have x1 : ((s[k].toNat : Int) == 34) = true := by simp [hc]
          have HX := Lib.hid (litFrom_stop s k acc hlt hc)
          clear hc
          go_wp2_with fail
          refine (Tryd.Builder_String_any _ _ _ _ HI.out hz).mono ?_
          rintro e w2 ⟨rfl, hb2⟩
          go_wp2_with fail
          go_ret2
          exact ⟨ret_si (by rw [HF.out, HX.out]), HB.out.trans hb2⟩
        · have x1 : ((s[k].toNat : Int) == 34) = false := by simp [hc]
          by_cases hbad : (s[k].toNat : Int) < 32 ∨ 126 < (s[k].toNat : Int)
          · have HX := Lib.hid (litFrom_bad s k acc hlt hc (by
              rw [drop_at s k hlt, chrR_cons, if_pos (by omega)]))
            clear hc
            rcases hbad with hbad | hbad
            all_goals
              go_wp2_with fail
              go_ret2
              exact ⟨ret_si (by rw [HF.out, HX.out]), HB.out⟩
          · have b1 : 32 ≤ (s[k].toNat : Int) := by omega
            have b2 : (s[k].toNat : Int) ≤ 126 := by omega
            by_cases h92 : (s[k].toNat : Int) = 92
            · have x2 : ((s[k].toNat : Int) == 92) = true := by simp [h92]
              have hch : chrR (s.data.toList.drop k) = if (escR (s.data.toList.drop (k + 1))).2 = 0 then (0, 0) else ((escR (s.data.toList.drop (k + 1))).1, (escR (s.data.toList.drop (k + 1))).2 + 1) := by
                rw [drop_at s k hlt, chrR_cons, if_neg (by omega), if_neg (by omega)]
              have hx := escR_rng (s.data.toList.drop (k + 1))
              rw [List.length_drop] at hx
              have hlen : s.data.toList.length = s.size := by simp
              rw [hlen] at hx
              have HC := Lib.hid hch
              have HN := Lib.hid hc
              clear hc h92 hch hlen hbad
              go_wp2_with fail
              refine (escape_any _ _ (by simp [maxLen]; omega)).mono ?_
              rintro e w2 ⟨rfl, n, rfl⟩
              rw [tail_of]
              have HI : Hid (Lib.IsBuilder 49 5 w.heap.size w.heap.size (Lib.byteCells acc) (wr.drewN n)) := Lib.hid HI.out
              have HB : Hid (Below w.heap.size w (wr.drewN n)) := Lib.hid (below_drewN HB.out n)
              have hz : w.heap.size ≤ (wr.drewN n).heap.size := hz
              obtain ⟨hx0, hx1, hx2, hx3, hx4⟩ := hx
              by_cases hz0 : (escR (s.data.toList.drop (k + 1))).2 = 0
              · have HX := Lib.hid (litFrom_bad s k acc hlt HN.out (by rw [HC.out, if_pos hz0]))
                have HZ := Lib.hid hz0
                have x3 : ((escR (s.data.toList.drop (k + 1))).2 == 0) = true := by simp [hz0]
                clear hz0
                go_wp2_with fail
                go_ret2
                exact ⟨ret_si (by rw [HF.out, HX.out]), HB.out⟩
              · have x3 : ((escR (s.data.toList.drop (k + 1))).2 == 0) = false := by simp [hz0]
                obtain ⟨m, hm⟩ := Int.eq_ofNat_of_zero_le hx2
                have HX := Lib.hid (litFrom_go s k m acc hlt HN.out (by rw [HC.out, if_neg hz0, hm]))
                have HC1 : Hid ((chrR (s.data.toList.drop k)).1 = (escR (s.data.toList.drop (k + 1))).1) := Lib.hid (by rw [HC.out, if_neg hz0])
                have HM := Lib.hid hm
                clear hm hz0
                go_wp2_with fail
                refine (Tryd.Builder_WriteByte _ _ _ _ _ HI.out (by simp [Lib.byteCells]; omega) hz).mono ?_
                rintro e w2 ⟨rfl, hI3, hb3⟩
                rw [byteCells_snoc _ _ hx0 hx1] at hI3
                have HI3 := Lib.hid hI3
                have HB3 := Lib.hid hb3
                clear hI3 hb3
                go_wp2_with fail
                go_roundw
                case rel =>
                  refine ⟨k + m + 1, acc ++ [(escR (s.data.toList.drop (k + 1))).1.toNat.toUInt8], ?_, by have := HM.out; omega, by simp; omega, .inr HI3.out, HB.out.trans HB3.out, ?_, by rw [HF.out, HX.out, HC1.out]⟩
                  · rw [HM.out]; go_num
                  · exact Nat.le_trans hz HB3.out.size
                case measure => have := HM.out; simp [intOf]; omega
            · have x2 : ((s[k].toNat : Int) == 92) = false := by simp [h92]
              have hch : chrR (s.data.toList.drop k) = ((s[k].toNat : Int), (1 : Int)) := by
                rw [drop_at s k hlt, chrR_cons, if_neg (by omega), if_pos h92]
              have HX := Lib.hid (litFrom_go s k 0 acc hlt hc (by rw [hch]; rfl))
              have HC1 : Hid ((chrR (s.data.toList.drop k)).1 = s[k].toNat) := Lib.hid (by rw [hch])
              clear hc h92 hch hbad
              go_wp2_with fail
              refine (Tryd.Builder_WriteByte _ _ _ _ _ HI.out (by simp [Lib.byteCells]; omega) hz).mono ?_
              rintro e w2 ⟨rfl, hI3, hb3⟩
              rw [byteCells_snoc _ _ (by omega) (byte_lt _)] at hI3
              have HI3 := Lib.hid hI3
              have HB3 := Lib.hid hb3
              clear hI3 hb3
              go_wp2_with fail
              go_roundw
              case rel =>
                refine ⟨k + 1, acc ++ [(s[k].toNat : Int).toNat.toUInt8], by go_num, by omega, by simp; omega, .inr HI3.out, HB.out.trans HB3.out, Nat.le_trans hz HB3.out.size, by rw [HF.out, HX.out, HC1.out]⟩
              case measure => simp [intOf]; omega
      · go_wp2_with fail
        go_ret2
        exact ⟨ret_si (by rw [HF.out, litFrom_end _ _ _ (by omega)]), HB.out⟩
  · have HL : Hid (litR s.data.toList = ([], 0)) := by
      by_cases h : 0 < s.size
      · exact Lib.hid (by rw [litR_at s h, if_neg (fun e => h0 ⟨h, e⟩)])
      · exact Lib.hid (litR_nil s (by omega))
    have HP : Hid (Lib.hasPrefix s.data.toList [34] = false) := by
      by_cases h : 0 < s.size
      · rw [dif_pos h] at hp; exact Lib.hid (hp.trans (decide_eq_false fun e => h0 ⟨h, e⟩))
      · rw [dif_neg h] at hp; exact Lib.hid hp
    clear hp h0
    go_enter Tryd.func38, Tryd.ntmps38
    go_wp2_with fail
    refine (flip_same (Tryd.strings_HasPrefix _ _ _)).mono ?_
    rintro e w' ⟨rfl, rfl⟩
    rw [HP.out]
    go_wp2_with fail
    go_ret2
    exact ⟨ret_si (by rw [HL.out]), Below.refl _ _⟩
end Go.Proofs.YtdjpnncehlmehaaDoor
