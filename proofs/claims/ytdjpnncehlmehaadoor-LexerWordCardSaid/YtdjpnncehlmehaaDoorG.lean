/- Slices that are read, slices that a call owns, and the contract of lexer.Tokens. -/
import Derived.Test.YtdjpnncehlmehaaDoorF
import Derived.OwnWalk
namespace Go.Proofs.YtdjpnncehlmehaaDoor
open Go.RowKit

/-- the slice with address A and n elements of k cells each reads as the cells xs -/
structure Rd (w : World) (k : Nat) (A : Option Addr) (n : Nat) (xs : List Value) : Prop where
  len : xs.length = n * k
  cells : 0 < xs.length → ∃ b o, A = some ⟨b, o, none⟩ ∧ b < w.heap.size ∧ ∀ j u, xs[j]? = some u → w.cell? ⟨b, o + j, none⟩ = some u
theorem Rd.below {w w' : World} {k n : Nat} {A : Option Addr} {xs : List Value} (h : Rd w k A n xs) (hb : Below w.heap.size w w') : Rd w' k A n xs :=
  ⟨h.len, fun hj => by
    obtain ⟨b, o, e, hl, hc⟩ := h.cells hj
    exact ⟨b, o, e, Nat.lt_of_lt_of_le hl hb.size, fun j u hu => (hb.cell (p := ⟨b, o + j, none⟩) hl).trans (hc j u hu)⟩⟩
theorem add_off (g j : Nat) : (⟨g, 0, none⟩ : Addr).add j = ⟨g, 0 + j, none⟩ := by unfold Addr.add; split <;> simp_all
theorem Rd.own {w : World} {base e k n : Nat} {A : Option Addr} {c : Nat} {xs : List Value} (h : w.ownsRow base e k (.slice A n c) n xs) : Rd w k A n xs := by
  refine ⟨h.1, fun hj => ?_⟩
  rcases h.2 with ⟨h1, h2⟩ | ⟨g, cap, cur, hv, _, hg, _⟩
  · have := h.1; subst h2; simp at this; subst this; simp at hj
  · injection hv with h1 h2 h3
    subst h1
    have hlt := (h.lt g rfl).2
    exact ⟨g, 0, rfl, hlt, fun j u hu => by rw [← add_off]; exact h.cells rfl j u hu⟩
theorem Rd.nil (w : World) (k : Nat) (A : Option Addr) : Rd w k A 0 [] := ⟨by simp, fun hj => by simp at hj⟩
theorem ownsRow_form {w : World} {base e k n : Nat} {v : Value} {xs : List Value} (h : w.ownsRow base e k v n xs) : ∃ A c, v = .slice A n c := by
  rcases h.2 with ⟨h1, h2⟩ | ⟨g, cap, cur, hv, _⟩
  · exact ⟨none, 0, by rw [h1, h2]⟩
  · exact ⟨_, _, hv⟩
theorem ownsRow_below {w w' : World} {base e k n : Nat} {v : Value} {xs : List Value} (h : w.ownsRow base e k v n xs) (hb : Below w.heap.size w w') : w'.ownsRow base e k v n xs := by
  refine ⟨h.1, ?_⟩
  rcases h.2 with h1 | ⟨g, cap, cur, hv, hge, hg, rest⟩
  · exact .inl h1
  · have hlt : g < w.heap.size := (h.lt g (by rw [hv]; rfl)).2
    exact .inr ⟨g, cap, cur, hv, hge, (hb.block g hlt).trans hg, rest⟩
theorem ownsRow_base {w : World} {base base' e k n : Nat} {v : Value} {xs : List Value} (h : w.ownsRow base e k v n xs) (hb : base' ≤ base) : w.ownsRow base' e k v n xs := by
  refine ⟨h.1, ?_⟩
  rcases h.2 with h1 | ⟨g, cap, cur, hv, hge, rest⟩
  · exact .inl h1
  · exact .inr ⟨g, cap, cur, hv, by omega, rest⟩
theorem below_grown {B : Nat} {a w w' : World} {row : Option Nat} (h : Below B a w) (hB : B ≤ w.heap.size) (hg : w.grownBy w' row) (hr : ∀ g, row = some g → B ≤ g) : Below B a w' :=
  h.trans ⟨hg.os, hg.tape, hg.output, hg.size, fun k hk => hg.block k (by omega) (fun e => by have := hr k e.symm; omega)⟩

def tokC (t : Tok) : List Value := (tokA t).toList
def toksC (l : List Tok) : List Value := l.flatMap tokC
theorem toksC_len (l : List Tok) : (toksC l).length = l.length * 5 := by
  induction l with
  | nil => rfl
  | cons t r ih => simp only [toksC, List.flatMap_cons, List.length_append, List.length_cons] at ih ⊢; rw [ih]; simp [tokC, tokA]; omega
theorem toksC_snoc (l : List Tok) (t : Tok) : toksC (l ++ [t]) = toksC l ++ tokC t := by simp [toksC]

/-- what Tokens gives: the tokens, the line, the error -/
def toksR (l : List UInt8) : List Tok × Int × Int :=
  if 65536 < l.length then ([], 0, 3) else match toks l 1 [] with | .ok ts => (ts, 0, 0) | .error n => ([], n, 2)
def RetToks (l : List UInt8) (w : World) (e : Ending) (w' : World) : Prop :=
  ∃ A c, e = .returned (.tuple #[.slice A (toksR l).1.length c, .int .i64 (toksR l).2.1, .int .i64 (toksR l).2.2]) ∧ Rd w' 5 A (toksR l).1.length (toksC (toksR l).1) ∧ Below w.heap.size w w'

theorem beq_swap (a b : UInt8) : (a == b) = (b == a) := by
  by_cases h : a = b
  · subst h; rfl
  · have h' : ¬ b = a := fun e => h e.symm
    rw [beq_eq_false_iff_ne.2 h, beq_eq_false_iff_ne.2 h']
theorem prefix_cons (a : UInt8) (r : List UInt8) : Lib.hasPrefix (a :: r) [47, 47] = (a == 47 && r.head? == some 47) := by
  cases r with
  | nil => simp [Lib.hasPrefix, List.isPrefixOf]
  | cons c r =>
    simp only [Lib.hasPrefix, List.isPrefixOf, List.head?_cons, Bool.and_true]
    rw [beq_swap a, show (some c == some (47 : UInt8)) = (c == 47) from rfl, beq_swap c]
theorem prefix_cc (s : ByteArray) (h0 : 0 < s.size) : Lib.hasPrefix s.data.toList [47, 47] = (s[0] == 47 && (s.data.toList.drop 1).head? == some 47) := by
  conv => lhs; rw [cons1 s h0]
  exact prefix_cons _ _
theorem idx_nl (l : List UInt8) : (Lib.indexByte l 10 = -1 ∧ l.dropWhile notNl = []) ∨ (∃ k : Nat, Lib.indexByte l 10 = k ∧ k < l.length ∧ l.dropWhile notNl = l.drop k) := by
  induction l with
  | nil => exact .inl ⟨rfl, rfl⟩
  | cons c r ih =>
    by_cases hc : c = 10
    · refine .inr ⟨0, ?_, by simp, ?_⟩
      · simp [Lib.indexByte, hc]
      · simp [notNl, hc]
    · have h1 : (c == 10) = false := by simp [hc]
      have h2 : notNl c = true := by simp [notNl, hc]
      rcases ih with ⟨h, h'⟩ | ⟨k, h, hk, h'⟩
      · refine .inl ⟨?_, ?_⟩
        · simp [Lib.indexByte, h1, h]
        · rw [List.dropWhile_cons_of_pos h2, h']
      · refine .inr ⟨k + 1, ?_, by simp; omega, ?_⟩
        · have : (Lib.indexByte r 10 == -1) = false := by rw [h, beq_eq_false_iff_ne]; omega
          simp only [Lib.indexByte, h1, h]; simp
        · rw [List.dropWhile_cons_of_pos h2, h']; rfl
theorem count_nl (l : List UInt8) : Lib.countByte l 10 = countNl l := by
  simp [Lib.countByte, countNl, List.count_eq_countP, List.countP_eq_length_filter]
theorem countNl_le (l : List UInt8) : countNl l ≤ l.length := List.length_filter_le _ _
theorem info33 : (Tryd.prog.info? 33).map (fun i => (i.zero, i.size, i.bytes)) = some (some (.agg #[.int .i64 0, .string ⟨#[]⟩, .int .i64 0, .string ⟨#[]⟩, .int .i64 0]), 5, 56) := by kernel_rfl

theorem toks_at_space (s : ByteArray) (line : Int) (acc : List Tok) : toks s.data.toList line acc = toks (s.data.toList.drop (run isSp s.data.toList)) (line + countNl (s.data.toList.take (run isSp s.data.toList))) acc := by
  rw [drop_run, take_run]; exact toks_spaces _ _ _
theorem toks_at_comment (s : ByteArray) (h0 : 0 < s.size) (line : Int) (acc : List Tok) (h : Lib.hasPrefix s.data.toList [47, 47] = true) : toks s.data.toList line acc = toks (s.data.toList.dropWhile notNl) line acc := by
  rw [prefix_cc s h0] at h
  simp only [Bool.and_eq_true, beq_iff_eq] at h
  have e := cons1 s h0
  have h1 := toks_comment (s.data.toList.drop 1) line acc h.2
  rw [← h.1, ← e] at h1
  rw [h1]
  have h2 : s.data.toList.dropWhile notNl = (s.data.toList.drop 1).dropWhile notNl := by
    conv => lhs; rw [e]
    rw [List.dropWhile_cons_of_pos (by rw [h.1]; rfl)]
  rw [h2]
theorem toks_at_tok (s : ByteArray) (h0 : 0 < s.size) (line : Int) (acc : List Tok) (hs : isSp s[0].toNat = false) (h : Lib.hasPrefix s.data.toList [47, 47] = false) (t : Tok) (m : Nat) (ht : TokOk s.data.toList t m) :
    (m = 0 ∧ toks s.data.toList line acc = .error line) ∨ (1 ≤ m ∧ m ≤ s.size ∧ toks s.data.toList line acc = toks (s.data.toList.drop m) line (acc ++ [{ t with line := line }])) := by
  rw [prefix_cc s h0] at h
  have e := cons1 s h0
  have h1 := toks_tok s[0] (s.data.toList.drop 1) line acc hs h
  rw [← e] at h1
  rw [h1]
  unfold TokOk at ht
  cases hk : tok1 s.data.toList with
  | none => rw [hk] at ht; exact .inl ⟨by simp only at ht; omega, rfl⟩
  | some x =>
    obtain ⟨u, k⟩ := x
    rw [hk] at ht
    simp only at ht
    obtain ⟨rfl, hm, hk1, hk2⟩ := ht
    have : m = k := by omega
    subst this
    refine .inr ⟨hk1, by simpa using hk2, ?_⟩
    simp only [List.drop_drop]
    congr 2
    omega
end Go.Proofs.YtdjpnncehlmehaaDoor
