/- Reading varints, strings, lists: what is read, and that what was put is read again. -/
import Derived.Test.YthmoplkleopahaaDoorWireP
namespace Go.Proofs.YthmoplkleopahaaDoor

/-- the number at the beginning: k bytes have been read, they mean a -/
def getVAt : Nat → Nat → Nat → List UInt8 → Option (Nat × Nat)
  | 0, _, _, _ => none
  | _ + 1, _, _, [] => none
  | f + 1, k, a, c :: r =>
    if 128 ≤ c.toNat then getVAt f (k + 1) (a + (c.toNat - 128) * 128 ^ k) r
    else if 18446744073709551616 ≤ c.toNat * 128 ^ k then none
    else if c.toNat = 0 ∧ 0 < k then none
    else some (a + c.toNat * 128 ^ k, k + 1)
def getV (s : List UInt8) : Option (Nat × Nat) := getVAt 10 0 0 s
def getStr (s : List UInt8) : Option (List UInt8 × Nat) :=
  match getV s with
  | none => none
  | some (n, k) => if s.length - k < n then none else some ((s.drop k).take n, k + n)
/-- n parts, one after the other -/
def getMany {α : Type} (g : List UInt8 → Option (α × Nat)) : Nat → List UInt8 → Option (List α × Nat)
  | 0, _ => some ([], 0)
  | n + 1, s => match g s with
    | none => none
    | some (x, k) => match getMany g n (s.drop k) with
      | none => none
      | some (xs, m) => some (x :: xs, k + m)
def getAll {α : Type} (g : List UInt8 → Option (α × Nat)) (s : List UInt8) : Option (List α × Nat) :=
  match getV s with
  | none => none
  | some (n, k) => match getMany g n (s.drop k) with
    | none => none
    | some (xs, m) => some (xs, k + m)
def getList (s : List UInt8) : Option (List (List UInt8) × Nat) := getAll getStr s
/-- the integer of a number -/
def unzig (n : Nat) : Int := if n % 2 = 0 then (n / 2 : Nat) else -((n / 2 : Nat) : Int) - 1
def getInt (s : List UInt8) : Option (Int × Nat) := (getV s).map fun x => (unzig x.1, x.2)
def getInts (s : List UInt8) : Option (List Int × Nat) := getAll getInt s

theorem step_fit' : ∀ (c : Fin 128) (k : Fin 10), c.val * 128 ^ k.val < 18446744073709551616 → (c.val + 1) * 128 ^ k.val ≤ 18446744073709551616 := by decide +kernel
theorem step_fit (a c k : Nat) (hc : c < 128) (hk : k ≤ 9) (ha : a < 128 ^ k) (h : ¬ 18446744073709551616 ≤ c * 128 ^ k) : a + c * 128 ^ k < 18446744073709551616 := by
  have := step_fit' ⟨c, hc⟩ ⟨k, by omega⟩ (by simpa using h)
  simp only [Nat.add_mul] at this
  omega
theorem getVAt_le : ∀ (f k a : Nat) (s : List UInt8) (n m : Nat), getVAt f k a s = some (n, m) → k < m ∧ m ≤ k + f ∧ m ≤ k + s.length
  | 0, _, _, _, _, _, h => by simp [getVAt] at h
  | _ + 1, _, _, [], _, _, h => by simp [getVAt] at h
  | f + 1, k, a, c :: r, n, m, h => by
    rw [getVAt] at h
    split at h
    · have := getVAt_le f (k + 1) _ r n m h
      simp only [List.length_cons]; omega
    · split at h
      · simp at h
      · split at h
        · simp at h
        · simp only [Option.some.injEq, Prod.mk.injEq] at h
          simp only [List.length_cons]; omega
theorem getV_le {s : List UInt8} {n k : Nat} (h : getV s = some (n, k)) : 0 < k ∧ k ≤ 10 ∧ k ≤ s.length := by
  have := getVAt_le 10 0 0 s n k h; omega
theorem getVAt_lt : ∀ (f k a : Nat) (s : List UInt8) (n m : Nat), f + k = 10 → a < 128 ^ k → getVAt f k a s = some (n, m) → n < 18446744073709551616
  | 0, _, _, _, _, _, _, _, h => by simp [getVAt] at h
  | _ + 1, _, _, [], _, _, _, _, h => by simp [getVAt] at h
  | f + 1, k, a, c :: r, n, m, hk, ha, h => by
    have hpow : 128 ^ (k + 1) = 128 ^ k * 128 := Nat.pow_succ 128 k
    rw [getVAt] at h
    split at h
    · have hc := c.toNat_lt
      have hmul : (c.toNat - 128) * 128 ^ k ≤ 127 * 128 ^ k := Nat.mul_le_mul_right _ (by omega)
      exact getVAt_lt f (k + 1) _ r n m (by omega) (by omega) h
    · rename_i hc
      split at h
      · simp at h
      · rename_i hb
        split at h
        · simp at h
        · simp only [Option.some.injEq, Prod.mk.injEq] at h
          obtain ⟨rfl, rfl⟩ := h
          exact step_fit a _ k (by omega) (by omega) ha hb
theorem getStr_le {s x : List UInt8} {k : Nat} (h : getStr s = some (x, k)) : 0 < k ∧ k ≤ s.length ∧ x.length < k := by
  unfold getStr at h
  split at h
  · simp at h
  · rename_i n m hv
    have hl := getV_le hv
    split at h
    · simp at h
    · simp only [Option.some.injEq, Prod.mk.injEq] at h
      obtain ⟨rfl, rfl⟩ := h
      simp only [List.length_take, List.length_drop]
      omega
theorem getVAt_put : ∀ (f n k a : Nat) (r : List UInt8), n < 128 ^ f → 0 < f → n * 128 ^ k < 18446744073709551616 → (0 < k → 0 < n) → getVAt f k a (varint n ++ r) = some (a + n * 128 ^ k, k + (varint n).length)
  | 0, _, _, _, _, _, h0, _, _ => by omega
  | f + 1, n, k, a, r, hn, _, hb, hp => by
    have hpos : 0 < 128 ^ k := Nat.pow_pos (by omega)
    by_cases h : n < 128
    · have ht : n.toUInt8.toNat = n := by simp; omega
      rw [varint_small n h]
      simp only [List.cons_append, List.nil_append, List.length_cons, List.length_nil]
      rw [getVAt, ht, if_neg (by omega), if_neg (by omega), if_neg (by omega)]
    · have ht : ((128 + n % 128).toUInt8).toNat = 128 + n % 128 := by simp; omega
      rw [varint_big n h]
      simp only [List.cons_append, List.length_cons]
      have hdm : n = 128 * (n / 128) + n % 128 := (Nat.div_add_mod n 128).symm
      have hb2 : n / 128 * 128 ^ (k + 1) ≤ n * 128 ^ k := by
        rw [Nat.pow_succ, Nat.mul_comm (128 ^ k) 128, ← Nat.mul_assoc]
        exact Nat.mul_le_mul_right _ (by omega)
      have hf : n / 128 < 128 ^ f := by rw [Nat.div_lt_iff_lt_mul (by omega)]; rw [Nat.pow_succ] at hn; omega
      have hf0 : 0 < f := by
        rcases Nat.eq_zero_or_pos f with h0 | h0
        · subst h0; simp at hn; omega
        · exact h0
      rw [getVAt, ht, if_pos (by omega), getVAt_put f (n / 128) (k + 1) _ r hf hf0 (by omega) (by omega)]
      congr 1
      congr 1
      · rw [show 128 + n % 128 - 128 = n % 128 from by omega, Nat.pow_succ, Nat.add_assoc]
        congr 1
        rw [Nat.mul_comm (128 ^ k) 128, ← Nat.mul_assoc, ← Nat.add_mul]
        congr 1
        omega
      · omega
theorem getV_put (n : Nat) (r : List UInt8) (h : n < 18446744073709551616) : getV (varint n ++ r) = some (n, (varint n).length) := by
  have := getVAt_put 10 n 0 0 r (by omega) (by omega) (by omega) (by omega)
  simpa [getV] using this
theorem getStr_put (x r : List UInt8) (h : x.length < 18446744073709551616) : getStr (putStr x ++ r) = some (x, (putStr x).length) := by
  unfold getStr putStr
  rw [List.append_assoc, getV_put x.length (x ++ r) h]
  simp only []
  rw [if_neg (by simp)]
  simp
theorem getMany_put {α : Type} (g : List UInt8 → Option (α × Nat)) (put : α → List UInt8) (l : List α) (hg : ∀ x ∈ l, ∀ r, g (put x ++ r) = some (x, (put x).length)) (r : List UInt8) :
    getMany g l.length (l.flatMap put ++ r) = some (l, (l.flatMap put).length) := by
  induction l with
  | nil => rfl
  | cons x t ih =>
    simp only [List.flatMap_cons, List.length_cons, getMany, List.append_assoc]
    rw [hg x (by simp)]
    simp only [List.drop_left]
    rw [ih (fun y hy => hg y (by simp [hy]))]
    simp
theorem getAll_put {α : Type} (g : List UInt8 → Option (α × Nat)) (put : α → List UInt8) (l : List α) (hl : l.length < 18446744073709551616) (hg : ∀ x ∈ l, ∀ r, g (put x ++ r) = some (x, (put x).length)) (r : List UInt8) :
    getAll g ((varint l.length ++ l.flatMap put) ++ r) = some (l, (varint l.length ++ l.flatMap put).length) := by
  unfold getAll
  rw [List.append_assoc, getV_put _ _ hl]
  simp only [List.drop_left]
  rw [getMany_put g put l hg]
  simp
theorem getList_put (l : List (List UInt8)) (r : List UInt8) (hl : l.length < 18446744073709551616) (hx : ∀ x ∈ l, x.length < 18446744073709551616) : getList (putList l ++ r) = some (l, (putList l).length) :=
  getAll_put getStr putStr l hl (fun x h r => getStr_put x r (hx x h)) r
theorem unzig_zig (n : Int) : unzig (zig n) = n := by
  unfold unzig zig
  split <;> split <;> omega
theorem getInts_put (l : List Int) (r : List UInt8) (hl : l.length < 18446744073709551616) (hx : ∀ x ∈ l, I64 x) : getInts (putInts l ++ r) = some (l, (putInts l).length) :=
  getAll_put getInt (fun n => varint (zig n)) l hl (fun x h r => by
    unfold getInt
    rw [getV_put _ _ (zig_lt x (hx x h).1 (hx x h).2)]
    simp [unzig_zig]) r
end Go.Proofs.YthmoplkleopahaaDoor
