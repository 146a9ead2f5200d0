/- Contracts of the functions that read a number, and a character. -/
import Derived.Test.YtdjpnncehlmehaaDoorA
import Derived.Deep.QuietTactic
import Derived.BigQuiet
import Derived.IntWalk
namespace Go.Proofs.YtdjpnncehlmehaaDoor
open Go.RowKit

theorem numGo_snoc (l : List UInt8) (c : UInt8) (n : Int) :
    numGo (l ++ [c]) n = (numGo l n).bind fun m => if (9223372036854775807 - ((c.toNat : Int) - 48)) / 10 < m then none else some (10 * m + ((c.toNat : Int) - 48)) := by
  induction l generalizing n with
  | nil => simp [numGo]
  | cons d r ih =>
    simp only [List.cons_append, numGo]
    split
    · rfl
    · exact ih _
/-- the number of a whole text from the number of its first k digits -/
def numFrom (l : List UInt8) (k : Nat) (n : Int) : Option Int := numGo (l.drop k) n
theorem numFrom_step (l : List UInt8) (k : Nat) (n : Int) (h : k < l.length) :
    numFrom l k n = if (9223372036854775807 - ((l[k].toNat : Int) - 48)) / 10 < n then none else numFrom l (k + 1) (10 * n + ((l[k].toNat : Int) - 48)) := by
  unfold numFrom
  rw [List.drop_eq_getElem_cons h, numGo]
theorem numFrom_end (l : List UInt8) (k : Nat) (n : Int) (h : l.length ≤ k) : numFrom l k n = some n := by
  unfold numFrom; rw [List.drop_eq_nil_of_le h]; rfl

theorem numFrom_stepS (s : ByteArray) (k : Nat) (n : Int) (h : k < s.size) :
    numFrom s.data.toList k n = if (9223372036854775807 - ((s[k].toNat : Int) - 48)) / 10 < n then none else numFrom s.data.toList (k + 1) (10 * n + ((s[k].toNat : Int) - 48)) :=
  numFrom_step s.data.toList k n (by simpa using h)
theorem not_empty (s : ByteArray) (h0 : 0 < s.size) : s.data.toList.isEmpty = false := by
  cases hq : s.data.toList with
  | nil => have hl : s.data.toList.length = s.size := by simp
           simp [hq] at hl; omega
  | cons => rfl
theorem is_empty (s : ByteArray) (h0 : s.size = 0) : s.data.toList = [] := by
  cases hq : s.data.toList with
  | nil => rfl
  | cons => have hl : s.data.toList.length = s.size := by simp
            simp [hq] at hl; omega
theorem cons1 (s : ByteArray) (h : 0 < s.size) : s.data.toList = s[0] :: s.data.toList.drop 1 := by
  have h' : 0 < s.data.toList.length := by simpa using h
  exact (List.drop_eq_getElem_cons h' : s.data.toList.drop 0 = _)
theorem cons2 (s : ByteArray) (h : 1 < s.size) : s.data.toList = s[0] :: s[1] :: s.data.toList.drop 2 := by
  have h' : 1 < s.data.toList.length := by simpa using h
  have e : s.data.toList.drop 1 = s[1] :: s.data.toList.drop 2 := List.drop_eq_getElem_cons h'
  rw [← e]
  exact cons1 s (by omega)
theorem cons3 (s : ByteArray) (h : 2 < s.size) : s.data.toList = s[0] :: s[1] :: s[2] :: s.data.toList.drop 3 := by
  have h' : 2 < s.data.toList.length := by simpa using h
  have e : s.data.toList.drop 2 = s[2] :: s.data.toList.drop 3 := List.drop_eq_getElem_cons h'
  rw [← e]
  exact cons2 s (by omega)
theorem toList_ne (s : ByteArray) (h0 : 0 < s.size) : s.toList ≠ [] := by
  rw [Lib.toList_data]; intro h; have hl : s.data.toList.length = s.size := by simp
  simp [h] at hl; omega
theorem toList_nil (s : ByteArray) (h0 : s.size = 0) : s.toList = [] := by
  rw [Lib.toList_data]; exact is_empty s h0
theorem head_at (s : ByteArray) (h : 0 < s.size) : s.data.toList.head? = some s[0] := by
  have : 0 < s.data.toList.length := by simpa using h
  rw [List.head?_eq_getElem?, List.getElem?_eq_getElem this]; rfl
theorem u8_int (c : UInt8) (n : Nat) (hn : n < 256) : ((c.toNat : Int) = n) ↔ c = n.toUInt8 := by
  constructor
  · intro h
    apply UInt8.toNat_inj.1
    rw [show c.toNat = n by omega, UInt8.toNat_ofNat']
    omega
  · intro h; subst h; rw [UInt8.toNat_ofNat']; omega
theorem number_go (s : ByteArray) (h0 : 0 < s.size) (h : ¬ (1 < s.size ∧ (s[0].toNat : Int) = 48)) :
    number s.data.toList = match numFrom s.data.toList 0 0 with | none => (0, false) | some n => (n, true) := by
  have hl : s.data.toList.length = s.size := by simp
  have he : s.data.toList.isEmpty = false := by cases hq : s.data.toList with | nil => simp [hq] at hl; omega | cons => rfl
  unfold number numFrom
  rw [head_at s h0, hl, if_neg, he]
  · simp only [List.drop_zero]; rfl
  · intro hh
    simp only [Bool.and_eq_true, decide_eq_true_eq, beq_iff_eq, Option.some.injEq] at hh
    exact h ⟨hh.1, (u8_int _ 48 (by omega)).2 hh.2⟩
theorem number_zero (s : ByteArray) (h0 : 1 < s.size) (h : (s[0].toNat : Int) = 48) : number s.data.toList = (0, false) := by
  unfold number
  rw [if_pos]
  simp only [Bool.and_eq_true, decide_eq_true_eq, beq_iff_eq]
  refine ⟨by simpa using h0, ?_⟩
  rw [head_at s (by omega), (u8_int _ 48 (by omega)).1 h]; rfl
theorem ret_ib {k : IntKind} {a b : Int} {c d : Bool} (h : (a, c) = (b, d)) : Ending.returned (.tuple #[.int k a, .bool c]) = .returned (.tuple #[.int k b, .bool d]) := by
  cases h; rfl
theorem ret_ii {k l : IntKind} {a b c d : Int} (h : (a, c) = (b, d)) : Ending.returned (.tuple #[.int k a, .int l c]) = .returned (.tuple #[.int k b, .int l d]) := by
  cases h; rfl

set_option maxHeartbeats 400000 in
theorem number_any (s : ByteArray) (w : World) (hs : s.size ≤ maxLen) (hd : ∀ k, (h : k < s.size) → isDig s[k].toNat = true) :
    Calls Tryd.prog 54 #[.string s] w fun e w' => e = .returned (.tuple #[.int .i64 (number s.data.toList).1, .bool (number s.data.toList).2]) ∧ w = w' := by
  unfold maxLen at hs
  have HD := Lib.hid hd
  clear hd
  have h0 : 0 < s.size ∨ s.size = 0 := by omega
  rcases h0 with h0 | h0
  · have hcc : (1 < s.size ∧ (s[0].toNat : Int) = 48) ∨ s.size ≤ 1 ∨ (1 < s.size ∧ (s[0].toNat : Int) ≠ 48) := by omega
    rcases hcc with ⟨hcc, hz⟩ | hcc | ⟨hcc, hne⟩
    · have HN := Lib.hid (number_zero s hcc hz)
      go_enter Tryd.func54, Tryd.ntmps54
      go_wp2_with fail
      go_ret2
      exact ⟨ret_ib (by rw [HN.out]), rfl⟩
    all_goals
      have HN := Lib.hid (number_go s h0 (by omega))
      go_enter Tryd.func54, Tryd.ntmps54
      go_wp2_with fail
      go_loop [4, 17] (fun n k => ∃ (i : Nat) (m : Int), i ≤ s.size ∧ 0 ≤ m ∧ m ≤ 9223372036854775807 ∧ n = .int .i64 m ∧ k = .int .i64 i ∧ numFrom s.data.toList 0 0 = numFrom s.data.toList i m) (fun _ k => s.size - (intOf k).toNat)
      case atStart => exact ⟨0, 0, by omega, by omega, by omega, rfl, rfl, rfl⟩
      case round =>
        obtain ⟨i, m, hi, hm0, hm1, rfl, rfl, hf⟩ := hrel
        have HF := Lib.hid hf
        clear hf
        by_cases hlt : i < s.size
        · have hd0 := HD.out i hlt
          simp [isDig] at hd0
          have hst := Lib.hid (numFrom_stepS s i m hlt)
          go_wp2_with fail
          · go_ret2
            refine ⟨ret_ib ?_, rfl⟩
            rw [HN.out, HF.out, hst.out, if_pos (by assumption)]
          · go_round
            case rel =>
              refine ⟨i + 1, 10 * m + (s[i].toNat - 48), by omega, by omega, by omega, rfl, by go_num, ?_⟩
              rw [HF.out, hst.out, if_neg (by omega)]
            case measure => simp [intOf]; omega
        · go_wp2_with fail
          go_ret2
          refine ⟨ret_ib ?_, rfl⟩
          rw [HN.out, HF.out, numFrom_end _ _ _ (by simp; omega)]
          simp [Lib.toList_data, not_empty s h0]
  · have he := Lib.hid (is_empty s h0)
    go_enter Tryd.func54, Tryd.ntmps54
    go_wp2_with fail
    go_loop [4, 17] (fun n k => n = .int .i64 0 ∧ k = .int .i64 0) (fun _ k => 0)
    case atStart => exact ⟨rfl, rfl⟩
    case round =>
      obtain ⟨rfl, rfl⟩ := hrel
      go_wp2_with fail
      go_ret2
      refine ⟨ret_ib ?_, rfl⟩
      rw [he.out]
      simp [Lib.toList_data, is_empty s h0, number, numGo]

theorem digits_hex : ∀ k : Fin 16, ∀ n : Fin 256, (((ByteArray.mk #[48, 49, 50, 51, 52, 53, 54, 55, 56, 57, 97, 98, 99, 100, 101, 102])[k.val]'(k.isLt)).toNat : Int) = n.val ↔ hexv n.val = k.val := by decide +kernel
theorem hexv_none : ∀ n : Fin 256, hexv n.val = -1 ∨ (0 ≤ hexv n.val ∧ hexv n.val < 16) := by decide +kernel
theorem hexv_rng (c : UInt8) : hexv c.toNat = -1 ∨ (0 ≤ hexv c.toNat ∧ hexv c.toNat < 16) := hexv_none ⟨c.toNat, c.toNat_lt⟩
theorem digits_index' : ∀ n : Fin 256, Lib.indexByte [48, 49, 50, 51, 52, 53, 54, 55, 56, 57, 97, 98, 99, 100, 101, 102] (n.val : Int).toNat.toUInt8 = hexv n.val := by decide +kernel
theorem digits_index (c : UInt8) : Lib.indexByte (ByteArray.mk #[48, 49, 50, 51, 52, 53, 54, 55, 56, 57, 97, 98, 99, 100, 101, 102]).data.toList (c.toNat : Int).toNat.toUInt8 = hexv c.toNat := digits_index' ⟨c.toNat, c.toNat_lt⟩

set_option maxRecDepth 100000 in
set_option maxHeartbeats 400000 in
theorem hex_any (n : Int) (w : World) (h0 : 0 ≤ n) (h1 : n < 256) :
    Calls Tryd.prog 64 #[.int .u8 n] w fun e w' => e = .returned (.int .i64 (hexv n)) ∧ w' = w := by
  obtain ⟨m, rfl⟩ := Int.eq_ofNat_of_zero_le h0
  have HD := Lib.hid (fun k (hk : k < 16) => digits_hex ⟨k, hk⟩ ⟨m, by omega⟩)
  have HN := Lib.hid (hexv_none ⟨m, by omega⟩)
  go_enter Tryd.func64, Tryd.ntmps64
  go_wp2_with fail
  go_loop [3] (fun k => ∃ i : Nat, i ≤ 16 ∧ k = .int .i64 i ∧ ∀ j : Nat, j < i → hexv m ≠ j) (fun k => 16 - (intOf k).toNat)
  case atStart => exact ⟨0, by omega, rfl, by intro j h; omega⟩
  case round =>
    obtain ⟨i, hi, rfl, hj⟩ := hrel
    have HJ := Lib.hid hj
    clear hj
    by_cases hlt : i < 16
    · go_wp2_with fail
      · rename_i hq _
        go_ret
        refine ⟨ret_int ?_, rfl⟩
        exact ((HD.out i hlt).1 (beq_iff_eq.1 hq)).symm
      · rename_i hq
        go_round
        case rel =>
          refine ⟨i + 1, by omega, by go_num, fun j h => ?_⟩
          rcases Nat.lt_or_ge j i with h1 | h1
          · exact HJ.out j h1
          · obtain rfl : j = i := by omega
            intro hh
            exact beq_eq_false_iff_ne.1 hq ((HD.out j hlt).2 hh)
        case measure => simp [intOf]; omega
    · go_wp2_with fail
      go_ret
      refine ⟨ret_int ?_, rfl⟩
      rcases HN.out with h | ⟨ha, hb⟩
      · exact h.symm
      · exfalso
        have ha' : 0 ≤ hexv (m : Int) := ha
        have hb' : hexv (m : Int) < 16 := hb
        exact HJ.out (hexv m).toNat (by omega) (by omega)
theorem or_hex' : ∀ a b : Fin 16, bits BinOp.or IntKind.i64 ((a.val : Int) * 16) (b.val : Int) % 256 = 16 * (a.val : Int) + b.val := by decide +kernel
theorem or_hex (a b : Int) (h0 : 0 ≤ a) (h1 : a < 16) (h2 : 0 ≤ b) (h3 : b < 16) : bits BinOp.or IntKind.i64 (a * 16) b % 256 = 16 * a + b := by
  obtain ⟨x, rfl⟩ := Int.eq_ofNat_of_zero_le h0
  obtain ⟨y, rfl⟩ := Int.eq_ofNat_of_zero_le h2
  exact or_hex' ⟨x, by omega⟩ ⟨y, by omega⟩
theorem escR_at (s : ByteArray) (h : 0 < s.size) : escR s.data.toList = (
    if (s[0].toNat : Int) = 34 ∨ (s[0].toNat : Int) = 92 then (s[0].toNat, 1)
    else if (s[0].toNat : Int) = 110 then (10, 1)
    else if (s[0].toNat : Int) = 120 then
      if h3 : 2 < s.size then (if 0 ≤ hexv s[1].toNat ∧ 0 ≤ hexv s[2].toNat then (16 * hexv s[1].toNat + hexv s[2].toNat, 3) else (0, 0)) else (0, 0)
    else (0, 0) : Int × Int) := by
  by_cases h3 : 2 < s.size
  · rw [dif_pos h3]; conv => lhs; rw [cons3 s h3]
    rfl
  · rw [dif_neg h3]
    by_cases h2 : 1 < s.size
    · conv => lhs; rw [cons2 s h2]
      have : s.data.toList.drop 2 = [] := List.drop_eq_nil_of_le (by simp; omega)
      rw [this]; rfl
    · conv => lhs; rw [cons1 s h]
      have : s.data.toList.drop 1 = [] := List.drop_eq_nil_of_le (by simp; omega)
      rw [this]; rfl
set_option maxHeartbeats 400000 in
theorem escape_any (s : ByteArray) (w : World) (hs : s.size ≤ maxLen) :
    Calls Tryd.prog 57 #[.string s] w fun e w' => e = .returned (.tuple #[.int .u8 (escR s.data.toList).1, .int .i64 (escR s.data.toList).2]) ∧ ∃ n, w' = w.drewN n := by
  unfold maxLen at hs
  by_cases h0 : s.size = 0
  · have he := Lib.hid (is_empty s h0)
    have hq : s.toList.isEmpty = true := by rw [Lib.toList_data, he.out]; rfl
    go_enter Tryd.func57, Tryd.ntmps57
    go_wp2_with fail
    go_ret2
    refine ⟨ret_ii (by rw [he.out]; rfl), ⟨0, rfl⟩⟩
  have hq : s.toList.isEmpty = false := by rw [Lib.toList_data]; exact not_empty s (by omega)
  have HE := Lib.hid (escR_at s (by omega))
  by_cases hx : (s[0].toNat : Int) = 120 ∧ 2 < s.size
  · obtain ⟨hx, h3⟩ := hx
    have HX := Lib.hid hx
    have x1 : ((s[0].toNat : Int) == 34) = false := by simp [hx]
    have x2 : ((s[0].toNat : Int) == 92) = false := by simp [hx]
    have x3 : ((s[0].toNat : Int) == 110) = false := by simp [hx]
    have x4 : ((s[0].toNat : Int) == 120) = true := by simp [hx]
    clear hx
    have i1 : 1 < s.size := by omega
    have j1 : (1 : Int) < (s.size : Int) := by omega
    have j2 : (2 : Int) < (s.size : Int) := by omega
    have hr1 := hexv_rng s[1]
    have hr2 := hexv_rng s[2]
    go_enter Tryd.func57, Tryd.ntmps57
    go_wp2_with fail
    go_quiet ((go_at_call 31; exact Calls.quiet_of_same (Tryd.strings_IndexByte _ _ _)))
    rw [digits_index s[1], digits_index s[2]]
    have HF : Hid (escR s.data.toList = if 0 ≤ hexv s[1].toNat ∧ 0 ≤ hexv s[2].toNat then (16 * hexv s[1].toNat + hexv s[2].toNat, 3) else (0, 0)) := by
      have := HE.out
      rw [HX.out, if_neg (by decide), if_neg (by decide), if_pos rfl, dif_pos h3] at this
      exact Lib.hid this
    clear HE
    generalize hexv s[1].toNat = a at *
    generalize hexv s[2].toNat = b at *
    by_cases ha : 0 ≤ a
    · by_cases hb : 0 ≤ b
      · go_wp2_with fail
        go_ret2
        refine ⟨ret_ii ?_, ⟨_, rfl⟩⟩
        rw [HF.out, if_pos ⟨ha, hb⟩, or_hex a b (by omega) (by omega) (by omega) (by omega)]; rfl
      · go_wp2_with fail
        go_ret2
        exact ⟨ret_ii (by rw [HF.out, if_neg (by omega)]), ⟨_, rfl⟩⟩
    · go_wp2_with fail
      go_ret2
      exact ⟨ret_ii (by rw [HF.out, if_neg (by omega)]), ⟨_, rfl⟩⟩
  · go_enter Tryd.func57, Tryd.ntmps57
    go_wp2_with fail
    all_goals (first | (go_ret2; refine ⟨ret_ii ?_, ⟨0, rfl⟩⟩; rw [HE.out]; simp_all; done) | (exfalso; have h9 := beq_iff_eq.1 (‹((s[0].toNat : Int) == 120) = true›); omega) | skip)
    all_goals
      go_ret2
      refine ⟨ret_ii ?_, ⟨0, rfl⟩⟩
      have h9 := beq_iff_eq.1 (‹((s[0].toNat : Int) == 120) = true›)
      rw [HE.out, h9, if_neg (by decide), if_neg (by decide), if_pos rfl, dif_neg (by omega)]

theorem escR_drop (s : ByteArray) (h : 1 < s.size) : escR (s.data.toList.drop 1) = (
    if (s[1].toNat : Int) = 34 ∨ (s[1].toNat : Int) = 92 then (s[1].toNat, 1)
    else if (s[1].toNat : Int) = 110 then (10, 1)
    else if (s[1].toNat : Int) = 120 then
      if h3 : 3 < s.size then (if 0 ≤ hexv s[2].toNat ∧ 0 ≤ hexv s[3].toNat then (16 * hexv s[2].toNat + hexv s[3].toNat, 3) else (0, 0)) else (0, 0)
    else (0, 0) : Int × Int) := by
  have := escR_at (s.extract 1 s.size) (by simp; omega)
  rw [Lib.extract_data, List.take_of_length_le (by simp)] at this
  rw [this]
  simp only [ByteArray.getElem_extract, ByteArray.size_extract, Nat.min_self]
  split
  · rfl
  · split
    · rfl
    · split
      · by_cases h3 : 3 < s.size
        · rw [dif_pos h3, dif_pos (by omega)]
        · rw [dif_neg h3, dif_neg (by omega)]
      · rfl
set_option maxRecDepth 100000 in
set_option maxHeartbeats 1000000 in
theorem char_any (s : ByteArray) (w : World) (hs : s.size ≤ maxLen) :
    Calls Tryd.prog 58 #[.string s] w fun e w' => e = .returned (.tuple #[.int .u8 (chrR s.data.toList).1, .int .i64 (chrR s.data.toList).2]) ∧ ∃ n, w' = w.drewN n := by
  unfold maxLen at hs
  by_cases h0 : s.size = 0
  · have he := Lib.hid (is_empty s h0)
    have hq : s.toList.isEmpty = true := by rw [Lib.toList_data, he.out]; rfl
    go_enter Tryd.func58, Tryd.ntmps58
    go_wp2_with fail
    go_ret2
    refine ⟨ret_ii (by rw [he.out]; rfl), ⟨0, rfl⟩⟩
  have hq : s.toList.isEmpty = false := by rw [Lib.toList_data]; exact not_empty s (by omega)
  have i0 : 0 < s.size := by omega
  have HC : Hid (chrR s.data.toList = (if (s[0].toNat : Int) < 32 ∨ 126 < (s[0].toNat : Int) ∨ (s[0].toNat : Int) = 34 then (0, 0)
    else if (s[0].toNat : Int) ≠ 92 then (s[0].toNat, 1)
    else if (escR (s.data.toList.drop 1)).2 = 0 then (0, 0) else ((escR (s.data.toList.drop 1)).1, (escR (s.data.toList.drop 1)).2 + 1) : Int × Int)) := by
    have h1 := cons1 s i0
    have h2 : chrR s.data.toList = chrR (s[0] :: s.data.toList.drop 1) := by rw [← h1]
    exact Lib.hid h2
  by_cases hbad : (s[0].toNat : Int) < 32 ∨ 126 < (s[0].toNat : Int) ∨ (s[0].toNat : Int) = 34
  · have HB := Lib.hid hbad
    rcases hbad with hbad | hbad | hbad
    · go_enter Tryd.func58, Tryd.ntmps58
      go_wp2_with fail
      go_ret2
      exact ⟨ret_ii (by rw [HC.out, if_pos HB.out]), ⟨0, rfl⟩⟩
    · go_enter Tryd.func58, Tryd.ntmps58
      go_wp2_with fail
      go_ret2
      exact ⟨ret_ii (by rw [HC.out, if_pos HB.out]), ⟨0, rfl⟩⟩
    · have a1 : ((s[0].toNat : Int) == 34) = true := by simp [hbad]
      have b1 : 32 ≤ (s[0].toNat : Int) := by omega
      have b2 : (s[0].toNat : Int) ≤ 126 := by omega
      clear hbad
      go_enter Tryd.func58, Tryd.ntmps58
      go_wp2_with fail
      go_ret2
      exact ⟨ret_ii (by rw [HC.out, if_pos HB.out]), ⟨0, rfl⟩⟩
  have HB := Lib.hid hbad
  have b1 : 32 ≤ (s[0].toNat : Int) := by omega
  have b2 : (s[0].toNat : Int) ≤ 126 := by omega
  have a1 : ((s[0].toNat : Int) == 34) = false := by rw [beq_eq_false_iff_ne]; omega
  by_cases h92 : (s[0].toNat : Int) = 92
  · have a2 : ((s[0].toNat : Int) != 92) = false := by simp [h92]
    have HN := Lib.hid h92
    clear h92 hbad
    by_cases h2 : s.size < 2
    · have HE : Hid (escR (s.data.toList.drop 1) = (0, 0)) := Lib.hid (by rw [List.drop_eq_nil_of_le (by simp; omega)]; rfl)
      go_enter Tryd.func58, Tryd.ntmps58
      go_wp2_with fail
      go_ret2
      exact ⟨ret_ii (by rw [HC.out, if_neg HB.out, if_neg (by simp [HN.out]), HE.out]; rfl), ⟨0, rfl⟩⟩
    have HE := Lib.hid (escR_drop s (by omega))
    by_cases hx : (s[1].toNat : Int) = 120 ∧ 3 < s.size
    · obtain ⟨hx, h3⟩ := hx
      have HX := Lib.hid hx
      have x1 : ((s[1].toNat : Int) == 34) = false := by simp [hx]
      have x2 : ((s[1].toNat : Int) == 92) = false := by simp [hx]
      have x3 : ((s[1].toNat : Int) == 110) = false := by simp [hx]
      have x4 : ((s[1].toNat : Int) == 120) = true := by simp [hx]
      clear hx
      have i2 : 2 < s.size := by omega
      have j1 : (2 : Int) < (s.size : Int) := by omega
      have j2 : (3 : Int) < (s.size : Int) := by omega
      have hr1 := hexv_rng s[2]
      have hr2 := hexv_rng s[3]
      have HF : Hid (chrR s.data.toList = if 0 ≤ hexv s[2].toNat ∧ 0 ≤ hexv s[3].toNat then (16 * hexv s[2].toNat + hexv s[3].toNat, 4) else (0, 0)) := by
        have h1 := HE.out
        rw [HX.out, if_neg (by decide), if_neg (by decide), if_pos rfl, dif_pos h3] at h1
        have h2 := HC.out
        rw [if_neg HB.out, if_neg (by simp [HN.out]), h1] at h2
        refine Lib.hid (h2.trans ?_)
        split <;> simp
      clear HE HC
      have hab : (0 ≤ hexv s[2].toNat ∧ 0 ≤ hexv s[3].toNat) ∨ ¬ 0 ≤ hexv s[2].toNat ∨ (0 ≤ hexv s[2].toNat ∧ ¬ 0 ≤ hexv s[3].toNat) := by omega
      rcases hab with ⟨ha, hb⟩ | ha | ⟨ha, hb⟩
      · have e1 : IntKind.i64.wrap (16 * hexv s[2].toNat) = 16 * hexv s[2].toNat := IntWalk.i64_in _ (by omega)
        have e2 : IntKind.i64.wrap (16 * hexv s[2].toNat + hexv s[3].toNat) = 16 * hexv s[2].toNat + hexv s[3].toNat := IntWalk.i64_in _ (by omega)
        go_enter Tryd.func58, Tryd.ntmps58
        go_wp2_with (go_at_call 64; refine (hex_any _ _ (by omega) (byte_lt _)).mono ?_; rintro e w' ⟨rfl, rfl⟩)
        go_quiet ((go_at_call 64; exact Calls.quiet_of_same (hex_any _ _ (by omega) (byte_lt _))))
        go_wp2_with fail
        go_ret2
        refine ⟨ret_ii ?_, ⟨_, rfl⟩⟩
        rw [HF.out, if_pos ⟨ha, hb⟩]; rfl
      · go_enter Tryd.func58, Tryd.ntmps58
        go_wp2_with (go_at_call 64; refine (hex_any _ _ (by omega) (byte_lt _)).mono ?_; rintro e w' ⟨rfl, rfl⟩)
        go_ret2
        exact ⟨ret_ii (by rw [HF.out, if_neg (by omega)]), ⟨0, rfl⟩⟩
      · go_enter Tryd.func58, Tryd.ntmps58
        go_wp2_with (go_at_call 64; refine (hex_any _ _ (by omega) (byte_lt _)).mono ?_; rintro e w' ⟨rfl, rfl⟩)
        go_ret2
        exact ⟨ret_ii (by rw [HF.out, if_neg (by omega)]), ⟨0, rfl⟩⟩
    · go_enter Tryd.func58, Tryd.ntmps58
      go_wp2_with fail
      all_goals (first | (go_ret2; refine ⟨ret_ii ?_, ⟨0, rfl⟩⟩; rw [HC.out, if_neg HB.out, if_neg (by simp [HN.out]), HE.out]; simp_all; done) | skip)
      all_goals first
        | (exfalso; have h9 := beq_iff_eq.1 (‹((s[1].toNat : Int) == 120) = true›); omega)
        | (go_ret2; refine ⟨ret_ii ?_, ⟨0, rfl⟩⟩
           have h9 := beq_iff_eq.1 (‹((s[1].toNat : Int) == 120) = true›)
           have hE : escR (s.data.toList.drop 1) = (0, 0) := by rw [HE.out, h9, if_neg (by decide), if_neg (by decide), if_pos rfl, dif_neg (by omega)]
           rw [HC.out, if_neg HB.out, if_neg (by simp [HN.out]), hE]; rfl)
  · have a2 : ((s[0].toNat : Int) != 92) = true := by rw [bne_iff_ne]; omega
    go_enter Tryd.func58, Tryd.ntmps58
    go_wp2_with fail
    go_ret2
    exact ⟨ret_ii (by rw [HC.out, if_neg HB.out, if_pos h92]), ⟨0, rfl⟩⟩
end Go.Proofs.YtdjpnncehlmehaaDoor
