/- Entries of the log in plain words: their errors, values, what a value reads as, batches, fresh requests. -/
import Derived.Test.YthmoplkleopahaaDoorWireP
import Derived.Lib.ItoaMem
import Derived.Lib.AtoiAll
import Derived.Lib.AtoiAllCases
namespace Go.Proofs.YthmoplkleopahaaDoor

structure Rq where
  (client number : Int) (op : List UInt8)
  deriving DecidableEq
structure En where
  (kind cfg : Int) (rs : List Rq)
  deriving DecidableEq
def same (a b : Rq) : Bool := a.client == b.client && a.number == b.number
def inB (l : List Rq) (r : Rq) : Bool := l.any fun x => same x r
def vRq (done : List Rq) (r : Rq) : Int :=
  if r.client < 0 ∨ 6 ≤ r.client ∨ r.number < 1 ∨ 1000000 < r.number then 7 else if r.op = [] then 9 else if 200 < r.op.length then 3 else if inB done r then 5 else 0
def vRqs : List Rq → List Rq → Int
  | _, [] => 0
  | done, r :: t => if vRq done r = 0 then vRqs (done ++ [r]) t else vRq done r
def vEn (e : En) : Int :=
  if e.kind = 1 then (if e.cfg ≠ 0 then 1 else if 8 < e.rs.length then 3 else vRqs [] e.rs)
  else if e.kind = 2 then (if e.cfg < 0 ∨ 6 ≤ e.cfg ∨ e.rs ≠ [] then 1 else 0)
  else if e.kind = 3 then (if e.cfg ≠ 0 ∨ e.rs ≠ [] then 1 else 0) else 1
def wBatch : List UInt8 := [98, 97, 116, 99, 104]
def wJoin : List UInt8 := [106, 111, 105, 110]
def wFinish : List UInt8 := [102, 105, 110, 105, 115, 104]
def rqS (r : Rq) : List (List UInt8) := [Lib.itoa r.client, Lib.itoa r.number, r.op]
def strs (e : En) : List (List UInt8) := if e.kind = 2 then [wJoin, Lib.itoa e.cfg] else if e.kind = 3 then [wFinish] else wBatch :: e.rs.flatMap rqS
def valE (e : En) : List UInt8 := putList (strs e)

/-! digits -/
theorem dd_big (u : Nat) (h : ¬ u < 10) : Lib.decDigits u = Lib.decDigits (u / 10) ++ [UInt8.ofNat (48 + u % 10)] := by rw [Lib.decDigits, dif_neg h]
theorem dig_nat (d : Nat) (h : d < 10) : (UInt8.ofNat (48 + d)).toNat = 48 + d := by
  simp; omega
theorem parse_dd (n : Nat) : ∀ u, u ≤ n → u < 1000000000000000000 → ∀ r, Lib.parseUint10 0 (Lib.decDigits u ++ r) = Lib.parseUint10 u r := by
  induction n with
  | zero =>
    intro u hu _ r
    obtain rfl : u = 0 := by omega
    rw [Lib.decDigits_one (by omega)]
    simp [Lib.parseUint10]
  | succ n ih =>
    intro u hu hb r
    by_cases h : u < 10
    · rw [Lib.decDigits_one h, List.cons_append, List.nil_append, Lib.parseUint10, dig_nat u h]
      rw [if_pos (by omega), if_neg (by omega), if_neg (by omega)]
      congr 1
      omega
    · rw [dd_big u h, List.append_assoc, ih (u / 10) (by omega) (by omega), List.cons_append, List.nil_append, Lib.parseUint10, dig_nat _ (by omega)]
      rw [if_pos (by omega), if_neg (by omega), if_neg (by omega)]
      congr 1
      omega
theorem dd_head (u : Nat) : ∃ c t, Lib.decDigits u = c :: t ∧ 48 ≤ c.toNat ∧ c.toNat ≤ 57 := by
  induction u using Nat.strongRecOn with
  | _ u ih =>
    by_cases h : u < 10
    · exact ⟨_, [], Lib.decDigits_one h, by rw [dig_nat u h]; omega, by rw [dig_nat u h]; omega⟩
    · obtain ⟨c, t, e, h1, h2⟩ := ih (u / 10) (by omega)
      exact ⟨c, t ++ [UInt8.ofNat (48 + u % 10)], by rw [dd_big u h, e]; rfl, h1, h2⟩
theorem dd_ne (u : Nat) : Lib.decDigits u ≠ [] := by
  obtain ⟨c, t, e, _⟩ := dd_head u
  rw [e]; simp
/-- what Atoi returns, whatever its error -/
def atoi0 (s : List UInt8) : Int := match Lib.atoiAll s with
  | .ok v => v
  | .range => Lib.atoiSat s
  | _ => 0
theorem atoiAll_dd (u : Nat) (h : u < 1000000000000000000) : Lib.atoiAll (Lib.decDigits u) = .ok (u : Int) := by
  obtain ⟨c, t, e, h1, h2⟩ := dd_head u
  have hp := parse_dd u u (Nat.le_refl _) h []
  rw [List.append_nil, e] at hp
  rw [e, Lib.atoiAll_plain c t (by omega) (by omega)]
  have hm : Lib.parseMag (c :: t) = .ok u := by
    unfold Lib.parseMag
    rw [if_neg (by simp), hp, Lib.parseUint10]
  rw [hm]
  show (if 9223372036854775808 ≤ u then _ else _) = _
  rw [if_neg (by omega)]
theorem atoi0_itoa (n : Int) (h0 : 0 ≤ n) (h1 : n < 1000000000000000000) : atoi0 (Lib.itoa n) = n := by
  obtain ⟨u, rfl⟩ := Int.eq_ofNat_of_zero_le h0
  rw [Lib.itoa_nonneg]
  simp only [atoi0, atoiAll_dd u (by omega)]
def isDg (c : UInt8) : Bool := decide (48 ≤ c.toNat) && decide (c.toNat ≤ 57)
def valD (s : List UInt8) : Nat := s.foldl (fun a c => 10 * a + (c.toNat - 48)) 0
/-- the reference's number -/
def numR (s : List UInt8) : Int := if s.length ≤ 7 ∧ s.all isDg = true ∧ s ≠ [] ∧ Lib.decDigits (valD s) = s then (valD s : Int) else -1
theorem valD_snoc (s : List UInt8) (c : UInt8) : valD (s ++ [c]) = 10 * valD s + (c.toNat - 48) := by simp [valD]
theorem dd_facts (u : Nat) : valD (Lib.decDigits u) = u ∧ (Lib.decDigits u).all isDg = true := by
  induction u using Nat.strongRecOn with
  | _ u ih =>
    by_cases h : u < 10
    · rw [Lib.decDigits_one h]
      have := dig_nat u h
      constructor
      · simp only [valD, List.foldl_cons, List.foldl_nil, this]; omega
      · simp only [List.all_cons, List.all_nil, isDg, this, Bool.and_true, Bool.and_eq_true, decide_eq_true_eq]; omega
    · obtain ⟨i1, i2⟩ := ih (u / 10) (by omega)
      have := dig_nat (u % 10) (by omega)
      rw [dd_big u h]
      constructor
      · rw [valD_snoc, i1, this]; omega
      · rw [List.all_append, i2]
        simp only [List.all_cons, List.all_nil, isDg, this, Bool.and_true, Bool.true_and, Bool.and_eq_true, decide_eq_true_eq]; omega
theorem dd_len : ∀ (k u : Nat), u < 10 ^ (k + 1) → (Lib.decDigits u).length ≤ k + 1
  | 0, u, h => by rw [Lib.decDigits_one (by simpa using h)]; simp
  | k + 1, u, h => by
    by_cases hn : u < 10
    · rw [Lib.decDigits_one hn]; simp
    · rw [dd_big u hn]
      have := dd_len k (u / 10) (by rw [Nat.div_lt_iff_lt_mul (by omega)]; rw [Nat.pow_succ] at h; omega)
      simp only [List.length_append, List.length_cons, List.length_nil]
      omega
theorem numR_itoa (n : Int) (h0 : 0 ≤ n) (h1 : n < 10000000) : numR (Lib.itoa n) = n := by
  obtain ⟨u, rfl⟩ := Int.eq_ofNat_of_zero_le h0
  rw [Lib.itoa_nonneg]
  obtain ⟨i1, i2⟩ := dd_facts u
  unfold numR
  rw [if_pos ⟨dd_len 6 u (by simpa using (by omega : u < 10000000)), i2, dd_ne u, by rw [i1]⟩, i1]
theorem itoa_len (n : Int) (h0 : 0 ≤ n) (h1 : n < 10000000) : (Lib.itoa n).length ≤ 7 := by
  obtain ⟨u, rfl⟩ := Int.eq_ofNat_of_zero_le h0
  rw [Lib.itoa_nonneg]
  exact dd_len 6 u (by simpa using (by omega : u < 10000000))
end Go.Proofs.YthmoplkleopahaaDoor
