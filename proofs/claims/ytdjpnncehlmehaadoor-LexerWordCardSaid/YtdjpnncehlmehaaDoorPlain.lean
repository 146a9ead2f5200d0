/- The lexer in plain words: what its functions compute, on lists of bytes. -/
import Derived.Lib.Strings
namespace Go.Proofs.YtdjpnncehlmehaaDoor

def isLet (n : Int) : Bool := decide (n = 95) || (decide (65 ≤ n) && decide (n ≤ 90)) || (decide (97 ≤ n) && decide (n ≤ 122))
def isDig (n : Int) : Bool := decide (48 ≤ n) && decide (n ≤ 57)
def isCon (n : Int) : Bool := isLet n || isDig n
def isSp (n : Int) : Bool := decide (n = 32) || decide (n = 9) || decide (n = 13) || decide (n = 10)
def symbols : List UInt8 := [123, 125, 40, 41, 91, 93, 44, 59, 58, 61, 47, 43, 45, 60, 62, 124, 38, 42]
def isSym (n : Int) : Bool := symbols.any fun c => decide ((c.toNat : Int) = n)
def hexv (n : Int) : Int := if 48 ≤ n ∧ n ≤ 57 then n - 48 else if 97 ≤ n ∧ n ≤ 102 then n - 87 else -1

def pb (p : Int → Bool) (c : UInt8) : Bool := p c.toNat
def run (p : Int → Bool) (l : List UInt8) : Nat := (l.takeWhile (pb p)).length

theorem run_at (p : Int → Bool) (l : List UInt8) (k : Nat) (hk : k ≤ l.length) (hj : ∀ j, (h : j < l.length) → j < k → p l[j].toNat = true)
    (hn : (h : k < l.length) → p l[k].toNat = false) : run p l = k := by
  induction l generalizing k with
  | nil => simp at hk; subst hk; rfl
  | cons c r ih =>
    cases k with
    | zero => have := hn (by simp); simp at this; simp [run, pb, this]
    | succ k =>
      have h0 := hj 0 (by simp) (by omega)
      simp at h0
      have := ih k (by simpa using hk) (fun j h h' => by have := hj (j + 1) (by simpa using h) (by omega); simpa using this) (fun h => by have := hn (by simpa using h); simpa using this)
      simp only [run, pb, List.takeWhile_cons, h0, if_true, List.length_cons] at this ⊢
      omega
theorem run_le (p : Int → Bool) (l : List UInt8) : run p l ≤ l.length := by
  unfold run; exact (List.takeWhile_sublist _).length_le
theorem take_run (p : Int → Bool) (l : List UInt8) : l.take (run p l) = l.takeWhile (pb p) := by
  induction l with
  | nil => rfl
  | cons c r ih =>
    cases h : pb p c
    · simp [run, h]
    · simp only [run, List.takeWhile_cons, h, if_true, List.length_cons, List.take_succ_cons] at ih ⊢; rw [ih]
theorem drop_run (p : Int → Bool) (l : List UInt8) : l.drop (run p l) = l.dropWhile (pb p) := by
  induction l with
  | nil => rfl
  | cons c r ih =>
    cases h : pb p c
    · simp [run, h]
    · simp only [run, List.takeWhile_cons, List.dropWhile_cons, h, if_true, List.length_cons, List.drop_succ_cons] at ih ⊢; rw [ih]

/-- the digits' number, or none where it is too great -/
def numGo : List UInt8 → Int → Option Int
  | [], n => some n
  | c :: r, n => if (9223372036854775807 - ((c.toNat : Int) - 48)) / 10 < n then none else numGo r (10 * n + ((c.toNat : Int) - 48))
def number (l : List UInt8) : Int × Bool :=
  if 1 < l.length && l.head? == some 48 then (0, false) else
  match numGo l 0 with
  | none => (0, false)
  | some n => (n, !l.isEmpty)
def intTok (l : List UInt8) : Option (Int × Nat) :=
  if 1 < run isDig l && l.head? == some 48 then none else (numGo (l.takeWhile (pb isDig)) 0).map (·, run isDig l)

/-- what follows a backslash: the byte, and how many were read; 0 if it is none -/
def escR (l : List UInt8) : Int × Int :=
  match l with
  | [] => (0, 0)
  | c :: r =>
    if (c.toNat : Int) = 34 ∨ (c.toNat : Int) = 92 then (c.toNat, 1)
    else if (c.toNat : Int) = 110 then (10, 1)
    else if (c.toNat : Int) = 120 then
      match r with
      | a :: b :: _ => if 0 ≤ hexv a.toNat ∧ 0 ≤ hexv b.toNat then (16 * hexv a.toNat + hexv b.toNat, 3) else (0, 0)
      | _ => (0, 0)
    else (0, 0)
/-- the character at the beginning, and its length; 0 if there is none -/
def chrR (l : List UInt8) : Int × Int :=
  match l with
  | [] => (0, 0)
  | c :: r =>
    if (c.toNat : Int) < 32 ∨ 126 < (c.toNat : Int) ∨ (c.toNat : Int) = 34 then (0, 0)
    else if (c.toNat : Int) ≠ 92 then (c.toNat, 1)
    else if (escR r).2 = 0 then (0, 0) else ((escR r).1, (escR r).2 + 1)
def litFrom (l acc : List UInt8) (i : Nat) : List UInt8 × Int :=
  match l with
  | [] => ([], 0)
  | c :: r => if (c.toNat : Int) = 34 then (acc, i + 1) else
    if (chrR (c :: r)).2 = 0 then ([], 0) else litFrom (r.drop ((chrR (c :: r)).2.toNat - 1)) (acc ++ [(chrR (c :: r)).1.toNat.toUInt8]) (i + (chrR (c :: r)).2.toNat)
termination_by l.length
decreasing_by simp; omega
/-- the string at the beginning, and its length; 0 if there is none -/
def litR (l : List UInt8) : List UInt8 × Int :=
  match l with
  | [] => ([], 0)
  | c :: r => if (c.toNat : Int) = 34 then litFrom r [] 1 else ([], 0)

structure Tok where
  kind : Int
  text : List UInt8
  int : Int
  str : List UInt8
  line : Int
  deriving DecidableEq
def tok0 : Tok := ⟨0, [], 0, [], 0⟩
def tok1 (l : List UInt8) : Option (Tok × Nat) :=
  match l with
  | [] => none
  | c :: r =>
    if isLet c.toNat then if 24 < run isCon (c :: r) then none else some (⟨1, (c :: r).takeWhile (pb isCon), 0, [], 0⟩, run isCon (c :: r))
    else if isDig c.toNat then (intTok (c :: r)).map fun x => (⟨2, [], x.1, [], 0⟩, x.2)
    else if (c.toNat : Int) = 34 then if (litR (c :: r)).2 = 0 then none else some (⟨3, [], 0, (litR (c :: r)).1, 0⟩, (litR (c :: r)).2.toNat)
    else if isSym c.toNat then some (⟨4, [c], 0, [], 0⟩, 1)
    else none
def notNl (c : UInt8) : Bool := c != 10
/-- the tokens, or the line of the first error -/
def toks (l : List UInt8) (line : Int) (acc : List Tok) : Except Int (List Tok) :=
  match l with
  | [] => .ok acc
  | c :: r =>
    if isSp c.toNat then toks r (if c == 10 then line + 1 else line) acc
    else if c == 47 && r.head? == some 47 then toks (r.dropWhile notNl) line acc
    else
      match tok1 (c :: r) with
      | none => .error line
      | some (t, n) => toks (r.drop (n - 1)) line (acc ++ [{ t with line := line }])
termination_by l.length
decreasing_by
  · simp
  · have := (List.dropWhile_sublist notNl (l := r)).length_le; simp; omega
  · simp; omega

def countNl (l : List UInt8) : Nat := (l.filter (· == 10)).length
theorem toks_spaces (l : List UInt8) (line : Int) (acc : List Tok) :
    toks l line acc = toks (l.dropWhile (pb isSp)) (line + countNl (l.takeWhile (pb isSp))) acc := by
  induction l generalizing line with
  | nil => simp [countNl]
  | cons c r ih =>
    cases h : pb isSp c
    · simp [h, countNl]
    · have h' : isSp c.toNat = true := h
      rw [toks]
      simp only [h', if_true, List.dropWhile_cons, List.takeWhile_cons, h]
      rw [ih]
      congr 1
      simp only [countNl, List.filter_cons]
      by_cases hc : c = 10 <;> simp [hc] <;> omega
theorem toks_comment (r : List UInt8) (line : Int) (acc : List Tok) (h : r.head? = some 47) :
    toks (47 :: r) line acc = toks (r.dropWhile notNl) line acc := by
  rw [toks]; simp [isSp, h]
theorem toks_tok (c : UInt8) (r : List UInt8) (line : Int) (acc : List Tok) (hs : isSp c.toNat = false) (hc : (c == 47 && r.head? == some 47) = false) :
    toks (c :: r) line acc = match tok1 (c :: r) with | none => .error line | some (t, n) => toks (r.drop (n - 1)) line (acc ++ [{ t with line := line }]) := by
  rw [toks]; simp [hs, hc]
end Go.Proofs.YtdjpnncehlmehaaDoor
