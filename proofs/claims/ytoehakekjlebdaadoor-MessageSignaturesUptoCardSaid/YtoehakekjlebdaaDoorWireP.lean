/- Varints, strings, lists of strings and of integers as bytes: what they are, and how long. -/
import Derived.Test.YtoehakekjlebdaaDoorBaseP
namespace Go.Proofs.YtoehakekjlebdaaDoor

def varint (n : Nat) : List UInt8 := if n < 128 then [n.toUInt8] else (128 + n % 128).toUInt8 :: varint (n / 128)
termination_by n
decreasing_by omega
theorem varint_small (n : Nat) (h : n < 128) : varint n = [n.toUInt8] := by rw [varint, if_pos h]
theorem varint_big (n : Nat) (h : ¬ n < 128) : varint n = (128 + n % 128).toUInt8 :: varint (n / 128) := by rw [varint, if_neg h]
theorem varint_len : ∀ (k n : Nat), n < 128 ^ (k + 1) → (varint n).length ≤ k + 1
  | 0, n, h => by rw [varint_small n (by simpa using h)]; simp
  | k + 1, n, h => by
    by_cases hn : n < 128
    · rw [varint_small n hn]; simp
    · rw [varint_big n hn]
      have := varint_len k (n / 128) (by rw [Nat.div_lt_iff_lt_mul (by omega)]; rw [Nat.pow_succ] at h; omega)
      simp only [List.length_cons]
      omega
theorem varint_ten (n : Nat) (h : n < 18446744073709551616) : (varint n).length ≤ 10 := varint_len 9 n (by omega)
theorem varint_pos (n : Nat) : 1 ≤ (varint n).length := by
  by_cases h : n < 128
  · rw [varint_small n h]; simp
  · rw [varint_big n h]; simp

/-- the number whose varint is the code of an integer -/
def zig (n : Int) : Nat := if 0 ≤ n then (2 * n).toNat else (-2 * n - 1).toNat
theorem zig_lt (n : Int) (h0 : -9223372036854775808 ≤ n) (h1 : n ≤ 9223372036854775807) : zig n < 18446744073709551616 := by
  unfold zig; split <;> omega
def I64 (n : Int) : Prop := -9223372036854775808 ≤ n ∧ n ≤ 9223372036854775807

def putStr (s : List UInt8) : List UInt8 := varint s.length ++ s
def putList (l : List (List UInt8)) : List UInt8 := varint l.length ++ l.flatMap putStr
def putInts (l : List Int) : List UInt8 := varint l.length ++ l.flatMap fun n => varint (zig n)
/-- the bytes of a list, all told -/
def tot (ls : List (List UInt8)) : Nat := (ls.map List.length).sum
theorem tot_cons (x : List UInt8) (r : List (List UInt8)) : tot (x :: r) = x.length + tot r := by simp [tot]
theorem tot_snoc (ls : List (List UInt8)) (x : List UInt8) : tot (ls ++ [x]) = tot ls + x.length := by simp [tot]
theorem tot_take (ls : List (List UInt8)) (k : Nat) : tot (ls.take k) ≤ tot ls := by
  induction ls generalizing k with
  | nil => simp
  | cons x r ih =>
    cases k with
    | zero => simp [tot]
    | succ k => have := ih k; rw [List.take_succ_cons, tot_cons, tot_cons]; omega
theorem tot_get (ls : List (List UInt8)) (k : Nat) (h : k < ls.length) : ls[k].length ≤ tot ls := by
  have := tot_take ls (k + 1)
  rw [List.take_succ_eq_append_getElem h, tot_snoc] at this
  omega
theorem putStr_len (s : List UInt8) (h : s.length < 18446744073709551616) : (putStr s).length ≤ 10 + s.length := by
  have := varint_ten s.length h
  simp only [putStr, List.length_append]; omega
theorem strs_len (l : List (List UInt8)) (h : tot l < 18446744073709551616) : (l.flatMap putStr).length ≤ 10 * l.length + tot l := by
  induction l with
  | nil => simp
  | cons x r ih =>
    rw [tot_cons] at h ⊢
    have h1 := putStr_len x (by omega)
    have h2 := ih (by omega)
    simp only [List.flatMap_cons, List.length_append, List.length_cons] at h2 ⊢
    omega
theorem putList_len (l : List (List UInt8)) (h : tot l < 18446744073709551616) (h2 : l.length < 18446744073709551616) : (putList l).length ≤ 10 + 10 * l.length + tot l := by
  have h1 := strs_len l h
  have h3 := varint_ten l.length h2
  simp only [putList, List.length_append]; omega
theorem ints_len (l : List Int) (h : ∀ n ∈ l, I64 n) : (l.flatMap fun n => varint (zig n)).length ≤ 10 * l.length := by
  induction l with
  | nil => simp
  | cons x r ih =>
    have h1 := varint_ten (zig x) (zig_lt x (h x (by simp)).1 (h x (by simp)).2)
    have h2 := ih (fun n hn => h n (by simp [hn]))
    simp only [List.flatMap_cons, List.length_append, List.length_cons] at h2 ⊢
    omega
theorem putInts_len (l : List Int) (h : ∀ n ∈ l, I64 n) (h2 : l.length < 18446744073709551616) : (putInts l).length ≤ 10 + 10 * l.length := by
  have h1 := ints_len l h
  have h3 := varint_ten l.length h2
  simp only [putInts, List.length_append]; omega
end Go.Proofs.YtoehakekjlebdaaDoor
