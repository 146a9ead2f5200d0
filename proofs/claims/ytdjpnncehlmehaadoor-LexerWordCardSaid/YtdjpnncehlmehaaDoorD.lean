/- Contracts of the reference's functions that read a string and an integer. -/
import Derived.Test.YtdjpnncehlmehaaDoorC
namespace Go.Proofs.YtdjpnncehlmehaaDoor
open Go.RowKit

theorem str_cat (a b : List UInt8) : ByteArray.mk a.toArray ++ ByteArray.mk b.toArray = ByteArray.mk (a ++ b).toArray := by
  apply ByteArray.ext
  simp
theorem byte_str (w : World) (a : Addr) (c : Int) (_h0 : 0 ≤ c) (_h1 : c < 256) (h : w.cell? a = some (.int .u8 c)) :
    Sem.run Tryd.prog (convert 47 9 (.slice (some a) 1 1)) w = .ok (.string ⟨#[c.toNat.toUInt8]⟩) w := by
  rw [run_convert_bytes_string w 47 9 5 (some a) 1 1 Tryd.underlying47 Tryd.underlying5 Tryd.underlying9]
  rw [run_bytesToString w a 1 1 [c] (by have := run_loadCells_list (P := Tryd.prog) (w := w) a [Value.int .u8 c] (by intro i v hi; cases i with | zero => (simp at hi; subst hi; simpa [Addr.add] using h) | succ i => simp at hi); simpa using this)]
  rfl
set_option maxRecDepth 100000 in
set_option maxHeartbeats 1000000 in
theorem str_any (s : ByteArray) (w : World) (hs : s.size ≤ maxLen) (hr : s.size ≤ 140737488355328) :
    Calls Tryd.prog 39 #[.string s] w fun e w' => e = .returned (.tuple #[.string ⟨(litR s.data.toList).1.toArray⟩, .int .i64 (litR s.data.toList).2]) ∧ Below w.heap.size w w' := by
  unfold maxLen at hs
  by_cases h0 : 0 < s.size
  · have hq : s.toList.isEmpty = false := by rw [Lib.toList_data]; exact not_empty s h0
    by_cases h1 : (s[0].toNat : Int) = 34
    · have x0 : ((s[0].toNat : Int) != 34) = false := by simp [h1]
      have HL : Hid (litR s.data.toList = litFrom (s.data.toList.drop 1) [] 1) := Lib.hid (by rw [litR_at s h0, if_pos h1])
      clear h1
      go_enter Tryd.func39, Tryd.ntmps39
      go_wp2_with fail
      go_loopw [4, 5] (fun o i wr => ∃ (k : Nat) (acc : List UInt8), o = .string ⟨acc.toArray⟩ ∧ i = .int .i64 k ∧ k ≤ s.size ∧ acc.length < k ∧ Below w.heap.size w wr ∧ litR s.data.toList = litFrom (s.data.toList.drop k) acc k) (fun _ i _ => s.size - (intOf i).toNat)
      case atStart => exact ⟨1, [], rfl, rfl, by omega, by simp, Below.refl _ _, HL.out⟩
      case round =>
        obtain ⟨k, acc, rfl, rfl, hk, hacc, hb, hf⟩ := hrel
        have HB := Lib.hid hb
        have HF := Lib.hid hf
        clear hb hf HL
        by_cases hlt : k < s.size
        · by_cases hc : (s[k].toNat : Int) = 34
          · have x1 : ((s[k].toNat : Int) != 34) = false := by simp [hc]
            have x2 : ((k : Int) == (s.size : Int)) = false := by rw [beq_eq_false_iff_ne]; omega
            have HX := Lib.hid (litFrom_stop s k acc hlt hc)
            clear hc
            go_wp2_with fail
            go_ret2
            exact ⟨ret_si (by rw [HF.out, HX.out]), HB.out⟩
          · have x1 : ((s[k].toNat : Int) != 34) = true := by rw [bne_iff_ne]; exact hc
            have hx := chrR_rng (s.data.toList.drop k)
            rw [List.length_drop] at hx
            have hlen : s.data.toList.length = s.size := by simp
            rw [hlen] at hx
            have HN := Lib.hid hc
            clear hc hlen
            go_wp2_with fail
            refine (char_any _ _ (by simp [maxLen]; omega)).mono ?_
            rintro e w2 ⟨rfl, n, rfl⟩
            rw [tail_of]
            have HB : Hid (Below w.heap.size w (wr.drewN n)) := Lib.hid (below_drewN HB.out n)
            obtain ⟨hx0, hx1, hx2, hx3, hx4⟩ := hx
            by_cases hz0 : (chrR (s.data.toList.drop k)).2 = 0
            · have HX := Lib.hid (litFrom_bad s k acc hlt HN.out hz0)
              have x3 : ((chrR (s.data.toList.drop k)).2 == 0) = true := by simp [hz0]
              clear hz0
              go_wp2_with fail
              go_ret2
              exact ⟨ret_si (by rw [HF.out, HX.out]), HB.out⟩
            · have x3 : ((chrR (s.data.toList.drop k)).2 == 0) = false := by simp [hz0]
              obtain ⟨m, hm⟩ : ∃ m : Nat, (chrR (s.data.toList.drop k)).2 = (m : Int) + 1 := ⟨((chrR (s.data.toList.drop k)).2 - 1).toNat, by omega⟩
              have HX := Lib.hid (litFrom_go s k m acc hlt HN.out hm)
              have HM := Lib.hid hm
              clear hm hz0
              have hcv := byte_str ((wr.drewN n).alloc (.cells #[.int .u8 (chrR (s.data.toList.drop k)).1] 5)) ⟨wr.heap.size, 0, none⟩ _ hx0 hx1 (by simp [World.cell?, World.alloc, World.drewN])
              go_wp2_with fail
              go_roundw
              case rel =>
                refine ⟨k + m + 1, acc ++ [(chrR (s.data.toList.drop k)).1.toNat.toUInt8], ?_, ?_, by have := HM.out; omega, by simp; omega, HB.out.alloc (Nat.le_trans HB.out.size (Nat.le_refl _)) _, by rw [HF.out, HX.out]⟩
                · exact congrArg Value.string (str_cat acc [(chrR (s.data.toList.drop k)).1.toNat.toUInt8])
                · rw [HM.out]; go_num
              case measure => have := HM.out; simp [intOf]; omega
        · have x2 : ((k : Int) == (s.size : Int)) = true := by rw [beq_iff_eq]; omega
          go_wp2_with fail
          go_ret2
          exact ⟨ret_si (by rw [HF.out, litFrom_end _ _ _ (by omega)]), HB.out⟩
    · have x0 : ((s[0].toNat : Int) != 34) = true := by rw [bne_iff_ne]; exact h1
      have HL : Hid (litR s.data.toList = ([], 0)) := Lib.hid (by rw [litR_at s h0, if_neg h1])
      go_enter Tryd.func39, Tryd.ntmps39
      go_wp2_with fail
      go_ret2
      exact ⟨ret_si (by rw [HL.out]), Below.refl _ _⟩
  · have hq : s.toList.isEmpty = true := by rw [Lib.toList_data, is_empty s (by omega)]; rfl
    have HL : Hid (litR s.data.toList = ([], 0)) := Lib.hid (litR_nil s (by omega))
    go_enter Tryd.func39, Tryd.ntmps39
    go_wp2_with fail
    go_ret2
    exact ⟨ret_si (by rw [HL.out]), Below.refl _ _⟩

theorem intTok_at (s : ByteArray) (h : 0 < s.size) : intTok s.data.toList =
    if 1 < run isDig s.data.toList ∧ (s[0].toNat : Int) = 48 then none else (numGo (s.data.toList.takeWhile (pb isDig)) 0).map (·, run isDig s.data.toList) := by
  unfold intTok
  rw [head_at s h]
  have := u8_int s[0] 48 (by omega)
  by_cases h1 : 1 < run isDig s.data.toList ∧ (s[0].toNat : Int) = 48
  · rw [if_pos h1, if_pos (by simp [h1.1]; exact this.1 h1.2)]
  · rw [if_neg h1, if_neg]
    intro hh
    simp at hh
    exact h1 ⟨hh.1, this.2 hh.2⟩
/-- the number and the number of bytes; 0 and 0 if there is none -/
def intR (l : List UInt8) : Int × Int := match intTok l with | none => (0, 0) | some (v, n) => (v, n)
/-- from the k-th byte on -/
def intFrom (l : List UInt8) (k : Nat) (v : Int) : Option Int := numGo ((l.drop k).takeWhile (pb isDig)) v
theorem intFrom_step (s : ByteArray) (k : Nat) (v : Int) (h : k < s.size) (hd : isDig s[k].toNat = true) :
    intFrom s.data.toList k v = if (9223372036854775807 - ((s[k].toNat : Int) - 48)) / 10 < v then none else intFrom s.data.toList (k + 1) (10 * v + ((s[k].toNat : Int) - 48)) := by
  unfold intFrom
  rw [drop_at s k h, List.takeWhile_cons_of_pos (p := pb isDig) hd, numGo]
theorem intFrom_stop (s : ByteArray) (k : Nat) (v : Int) (h : (hk : k < s.size) → isDig s[k].toNat = false) : intFrom s.data.toList k v = some v := by
  unfold intFrom
  by_cases hk : k < s.size
  · rw [drop_at s k hk, List.takeWhile_cons_of_neg (by have := h hk; simp [pb, this])]; rfl
  · rw [List.drop_eq_nil_of_le (by simp; omega)]; rfl
theorem run_ge (p : Int → Bool) (l : List UInt8) (k : Nat) (hk : k ≤ l.length) (hj : ∀ j, (h : j < l.length) → j < k → p l[j].toNat = true) : k ≤ run p l := by
  induction l generalizing k with
  | nil => simp at hk; omega
  | cons c r ih =>
    cases k with
    | zero => omega
    | succ k =>
      have h0 := hj 0 (by simp) (by omega)
      simp at h0
      have := ih k (by simpa using hk) (fun j h h' => by have := hj (j + 1) (by simpa using h) (by omega); simpa using this)
      simp only [run, pb, List.takeWhile_cons, h0, if_true, List.length_cons] at this ⊢
      omega
theorem intFrom_zero (l : List UInt8) : intFrom l 0 0 = numGo (l.takeWhile (pb isDig)) 0 := rfl
set_option maxRecDepth 100000 in
set_option maxHeartbeats 1000000 in
theorem integer_any (s : ByteArray) (w : World) (hs : s.size ≤ maxLen) (h0 : 0 < s.size) :
    Calls Tryd.prog 55 #[.string s] w fun e w' => e = .returned (.tuple #[.int .i64 (intR s.data.toList).1, .int .i64 (intR s.data.toList).2]) ∧ w = w' := by
  unfold maxLen at hs
  have HT := Lib.hid (intTok_at s h0)
  go_enter Tryd.func55, Tryd.ntmps55
  go_wp2_with fail
  go_loop [4, 5] (fun v i => ∃ (k : Nat) (m : Int), v = .int .i64 m ∧ 0 ≤ m ∧ m ≤ 9223372036854775807 ∧ i = .int .i64 k ∧ k ≤ s.size ∧ (∀ j, (h : j < s.size) → j < k → isDig s[j].toNat = true) ∧ (1 < k → (s[0].toNat : Int) ≠ 48) ∧ intFrom s.data.toList 0 0 = intFrom s.data.toList k m) (fun _ i => s.size - (intOf i).toNat)
  case atStart => exact ⟨0, 0, rfl, by omega, by omega, rfl, by omega, by intro j h h'; omega, by omega, rfl⟩
  case round =>
    obtain ⟨k, m, rfl, hm0, hm1, rfl, hk, hj, hz, hf⟩ := hrel
    have HJ := Lib.hid hj
    have HZ := Lib.hid hz
    have HF := Lib.hid hf
    clear hj hz hf
    by_cases hlt : k < s.size
    · cases hd : isDig s[k].toNat
      · have HD := Lib.hid hd
        have HX := Lib.hid (intFrom_stop s k m (fun _ => hd))
        have HR := Lib.hid (run_at isDig s.data.toList k (by simpa using hk) (fun j h h' => HJ.out j (by simpa using h) h') (fun _ => hd))
        clear hd
        go_wp2_with (go_at_call 44; refine (digit_any _ _).mono ?_; rw [HD.out]; rintro e w' ⟨rfl, rfl⟩)
        go_ret2
        refine ⟨ret_ii ?_, rfl⟩
        have h1 := HT.out
        rw [HR.out, if_neg (fun h => HZ.out h.1 h.2), ← intFrom_zero, HF.out, HX.out] at h1
        simp [intR, h1]
      · have HD := Lib.hid hd
        have hst := Lib.hid (intFrom_step s k m hlt hd)
        have hd1 : 48 ≤ (s[k].toNat : Int) ∧ (s[k].toNat : Int) ≤ 57 := by simpa [isDig] using hd
        have hj' : ∀ j, (h : j < s.size) → j < k + 1 → isDig s[j].toNat = true := fun j h h' => by
          rcases Nat.lt_or_ge j k with h1 | h1
          · exact HJ.out j h h1
          · obtain rfl : j = k := by omega
            exact hd
        have HJ' := Lib.hid hj'
        have hge := run_ge isDig s.data.toList (k + 1) (by simp; omega) (fun j h h' => HJ'.out j (by simpa using h) h')
        clear hd hj'
        obtain ⟨hd2, hd3⟩ := hd1
        by_cases hbz : 0 < k ∧ (s[0].toNat : Int) = 48
        · obtain ⟨k0, hz0⟩ := hbz
          have HX : Hid (intR s.data.toList = (0, 0)) := Lib.hid (by rw [intR, HT.out, if_pos ⟨by omega, hz0⟩])
          have x1 : ((s[0].toNat : Int) == 48) = true := by simp [hz0]
          have x2 : decide (0 < (k : Int)) = true := by simp; omega
          clear hz0
          go_wp2_with (go_at_call 44; refine (digit_any _ _).mono ?_; rw [HD.out]; rintro e w' ⟨rfl, rfl⟩)
          go_ret2
          exact ⟨ret_ii (by rw [HX.out]), rfl⟩
        · have hbb : k = 0 ∨ (0 < k ∧ (s[0].toNat : Int) ≠ 48) := by omega
          have HB := Lib.hid hbz
          clear hbz
          by_cases hov : (9223372036854775807 - ((s[k].toNat : Int) - 48)) / 10 < m
          · have HX : Hid (intR s.data.toList = (0, 0)) := Lib.hid (by
              rw [intR, HT.out]
              split
              · rfl
              · rename_i heq; split at heq
                · cases heq
                · rw [← intFrom_zero, HF.out, hst.out, if_pos hov] at heq; cases heq)
            rcases hbb with rfl | ⟨k0, hz0⟩
            · go_wp2_with (go_at_call 44; refine (digit_any _ _).mono ?_; rw [HD.out]; rintro e w' ⟨rfl, rfl⟩)
              go_ret2
              exact ⟨ret_ii (by rw [HX.out]), rfl⟩
            · have x1 : ((s[0].toNat : Int) == 48) = false := by simp [hz0]
              go_wp2_with (go_at_call 44; refine (digit_any _ _).mono ?_; rw [HD.out]; rintro e w' ⟨rfl, rfl⟩)
              go_ret2
              exact ⟨ret_ii (by rw [HX.out]), rfl⟩
          · rcases hbb with rfl | ⟨k0, hz0⟩
            · go_wp2_with (go_at_call 44; refine (digit_any _ _).mono ?_; rw [HD.out]; rintro e w' ⟨rfl, rfl⟩)
              go_round
              case rel =>
                exact ⟨1, 10 * m + (s[0].toNat - 48), by go_num, by omega, by omega, rfl, by omega, HJ'.out, by omega, by rw [HF.out, hst.out, if_neg (by omega)]; rfl⟩
              case measure => simp [intOf]; omega
            · have x1 : ((s[0].toNat : Int) == 48) = false := by simp [hz0]
              have HZ0 := Lib.hid hz0
              clear hz0
              go_wp2_with (go_at_call 44; refine (digit_any _ _).mono ?_; rw [HD.out]; rintro e w' ⟨rfl, rfl⟩)
              go_round
              case rel =>
                exact ⟨k + 1, 10 * m + (s[k].toNat - 48), by go_num, by omega, by omega, by go_num, by omega, HJ'.out, fun _ => HZ0.out, by rw [HF.out, hst.out, if_neg (by omega)]⟩
              case measure => simp [intOf]; omega
    · have HX := Lib.hid (intFrom_stop s k m (fun h => absurd h hlt))
      have HR := Lib.hid (run_at isDig s.data.toList k (by simpa using hk) (fun j h h' => HJ.out j (by simpa using h) h') (fun h => by simp at h; omega))
      go_wp2_with fail
      go_ret2
      refine ⟨ret_ii ?_, rfl⟩
      have h1 := HT.out
      rw [HR.out, if_neg (fun h => HZ.out h.1 h.2), ← intFrom_zero, HF.out, HX.out] at h1
      simp [intR, h1]
end Go.Proofs.YtdjpnncehlmehaaDoor
