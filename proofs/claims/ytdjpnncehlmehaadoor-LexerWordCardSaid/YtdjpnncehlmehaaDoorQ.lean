/- The laws on names and lines. -/
import Derived.Test.YtdjpnncehlmehaaDoorO
namespace Go.Proofs.YtdjpnncehlmehaaDoor
open Go.RowKit

theorem let_sp (n : Int) (h : isLet n = true) : isSp n = false := by
  simp [isLet, isSp] at h ⊢; omega
/-- a name is one token -/
theorem toksR_name (l : List UInt8) (h : isName l = true) : toksR l = ([⟨1, l, 0, [], 1⟩], 0, 0) := by
  match l with
  | [] => simp [isName] at h
  | c :: r =>
    simp only [isName, List.isEmpty_cons, Bool.not_false, Bool.true_and, Bool.and_eq_true, decide_eq_true_eq] at h
    obtain ⟨⟨h1, h2⟩, h3⟩ := h
    have htw : (c :: r).takeWhile (pb isCon) = c :: r := by
      rw [← take_run, h3, List.take_of_length_le (Nat.le_refl _)]
    have hne : (c == 47 && r.head? == some 47) = false := by
      have : c ≠ 47 := fun e => by subst e; revert h2; decide
      simp [this]
    have ht : tok1 (c :: r) = some (⟨1, c :: r, 0, [], 0⟩, (c :: r).length) := by
      rw [tok1_cons, if_pos h2, if_neg (by omega), htw, h3]
    have e : toks (c :: r) 1 [] = .ok [⟨1, c :: r, 0, [], 1⟩] := by
      rw [toks_tok c r 1 [] (let_sp _ h2) hne, ht]
      simp only [List.length_cons, Nat.add_sub_cancel]
      rw [List.drop_eq_nil_of_le (Nat.le_refl _), toks]
      rfl
    unfold toksR
    rw [if_neg (by omega), e]
/-- what a name among the tokens is -/
def NameAt (l : List UInt8) (t : Tok) : Prop := t.kind = 1 → ∃ k c r, l.drop k = c :: r ∧ isLet c.toNat = true ∧ t.text = (c :: r).takeWhile (pb isCon) ∧ run isCon (c :: r) ≤ 24
theorem NameAt.drop {l : List UInt8} {t : Tok} (j : Nat) (h : NameAt (l.drop j) t) : NameAt l t := fun hk => by
  obtain ⟨k, c, r, e, h'⟩ := h hk
  exact ⟨j + k, c, r, by rw [← List.drop_drop]; exact e, h'⟩
theorem dropWhile_drop (p : UInt8 → Bool) (l : List UInt8) : ∃ k, l.dropWhile p = l.drop k := by
  induction l with
  | nil => exact ⟨0, rfl⟩
  | cons c r ih =>
    by_cases h : p c = true
    · obtain ⟨k, e⟩ := ih
      exact ⟨k + 1, by rw [List.dropWhile_cons_of_pos h, e]; rfl⟩
    · exact ⟨0, by rw [List.dropWhile_cons_of_neg h]; rfl⟩
theorem toks_names : ∀ (n : Nat) (l : List UInt8) (line : Int) (acc ts : List Tok), l.length = n → toks l line acc = .ok ts → ∀ t ∈ ts, t ∈ acc ∨ NameAt l t := by
  intro n
  induction n using Nat.strongRecOn with
  | _ n ih =>
    intro l line acc ts hn h t ht
    match l with
    | [] => rw [toks] at h; cases h; exact .inl ht
    | c :: r =>
      simp only [List.length_cons] at hn
      rw [toks] at h
      split at h
      · exact (ih r.length (by omega) _ _ _ _ rfl h t ht).imp id (fun h' => NameAt.drop (l := c :: r) 1 h')
      · split at h
        · obtain ⟨k, e⟩ := dropWhile_drop notNl r
          rw [e] at h
          exact (ih (r.drop k).length (by simp; omega) _ _ _ _ rfl h t ht).imp id (fun h' => NameAt.drop (l := c :: r) (k + 1) h')
        · split at h
          · cases h
          · rename_i u m hm
            rcases ih (r.drop (m - 1)).length (by simp; omega) _ _ _ _ rfl h t ht with h' | h'
            · rw [List.mem_append, List.mem_singleton] at h'
              rcases h' with h' | h'
              · exact .inl h'
              · refine .inr (fun hk => ⟨0, c, r, rfl, ?_⟩)
                subst h'
                rw [tok1_cons] at hm
                split at hm
                · rename_i hl
                  split at hm
                  · cases hm
                  · rename_i h24
                    cases hm
                    exact ⟨hl, rfl, by omega⟩
                · exfalso
                  have hk' : u.kind = 1 := hk
                  split at hm
                  · cases hx : intTok (c :: r) with
                    | none => rw [hx] at hm; cases hm
                    | some x => rw [hx] at hm; cases hm; simp at hk'
                  · split at hm
                    · split at hm
                      · cases hm
                      · cases hm; simp at hk'
                    · split at hm
                      · cases hm; simp at hk'
                      · cases hm
            · exact .inr (NameAt.drop (l := c :: r) (m - 1 + 1) h')
theorem name_toksR (l : List UInt8) (t : Tok) (h : toksR l = ([t], 0, 0)) (hk : t.kind = 1) (ht : t.text = l) : isName l = true := by
  have ho : toks l 1 [] = .ok [t] := by
    unfold toksR at h
    split at h
    · cases h
    · cases hx : toks l 1 [] with
      | error n => rw [hx] at h; cases h
      | ok ts => rw [hx] at h; cases h; rfl
  rcases toks_names _ l 1 [] [t] rfl ho t (by simp) with h' | h'
  · cases h'
  · obtain ⟨k, c, r, e, hl, htx, h24⟩ := h' hk
    have hlen := congrArg List.length e
    have htw : ((c :: r).takeWhile (pb isCon)).length ≤ (c :: r).length := (List.takeWhile_sublist _).length_le
    rw [← htx, ht] at htw
    simp only [List.length_drop] at hlen
    have hk0 : k = 0 := by simp only [List.length_cons] at hlen htw; omega
    subst hk0
    simp only [List.drop_zero] at e
    subst e
    have hr : run isCon (c :: r) = (c :: r).length := by
      unfold run; rw [← htx, ht]
    simp only [isName, List.isEmpty_cons, Bool.not_false, Bool.true_and, Bool.and_eq_true, decide_eq_true_eq]
    exact ⟨⟨by omega, hl⟩, hr⟩

def joinNl (ls : List (List UInt8)) : List UInt8 := ls.flatMap (· ++ [10])
theorem joinNl_snoc (ls : List (List UInt8)) (x : List UInt8) : joinNl (ls ++ [x]) = joinNl ls ++ (x ++ [10]) := by simp [joinNl]
theorem join_split (l : List UInt8) : joinNl (splitNl l) = l ++ [10] := by
  induction l with
  | nil => rfl
  | cons c r ih =>
    rw [splitNl]
    split
    · rename_i h
      have hc : c = 10 := (u8_int c 10 (by omega)).1 h
      simp only [joinNl, List.flatMap_cons] at ih ⊢
      rw [ih, hc]; rfl
    · have hl := (splitNl_len r).1
      cases hs : splitNl r with
      | nil => rw [hs] at hl; simp at hl
      | cons p ps =>
        rw [hs] at ih
        simp only [joinNl, List.flatMap_cons] at ih ⊢
        rw [List.cons_append, List.cons_append, ih]; rfl
def wholeB (l : List UInt8) : Bool := match l.getLast? with | none => true | some c => decide ((c.toNat : Int) = 10)
theorem split_last (l : List UInt8) : (splitNl l).getLast? = some [] ↔ wholeB l = true := by
  induction l with
  | nil => simp [splitNl, wholeB]
  | cons c r ih =>
    rw [splitNl]
    have hl := (splitNl_len r).1
    split
    · rename_i h
      cases hr : r with
      | nil => simp [splitNl, wholeB, h]
      | cons d r' =>
        rw [hr] at ih hl
        have e1 : ([] :: splitNl (d :: r')).getLast? = (splitNl (d :: r')).getLast? := by
          cases hs : splitNl (d :: r') with
          | nil => rw [hs] at hl; simp at hl
          | cons p ps => rw [List.getLast?_cons_cons]
        rw [e1, ih]
        unfold wholeB; rw [List.getLast?_cons_cons]
    · rename_i h
      cases hs : splitNl r with
      | nil => rw [hs] at hl; simp at hl
      | cons p ps =>
        rw [hs] at ih
        cases hr : r with
        | nil =>
          subst hr
          simp [splitNl] at hs
          obtain ⟨rfl, rfl⟩ := hs
          simp [wholeB, h]
        | cons d r' =>
          have e2 : wholeB (c :: d :: r') = wholeB r := by unfold wholeB; rw [List.getLast?_cons_cons, hr]
          rw [e2, ← ih]
          cases ps with
          | nil =>
            have hj := join_split r
            rw [hs] at hj
            simp only [joinNl, List.flatMap_cons, List.flatMap_nil, List.append_nil, List.append_cancel_right_eq] at hj
            rw [hj, hr]
            simp
          | cons q qs => simp [List.getLast?_cons_cons]
theorem join_lines (l : List UInt8) : decide (joinNl (lines l) = l) = wholeB l := by
  have hj := join_split l
  unfold lines
  by_cases h : (splitNl l).getLast? = some []
  · rw [if_pos h, (split_last l).1 h]
    refine decide_eq_true ?_
    have hd : splitNl l = (splitNl l).dropLast ++ [[]] := by
      rw [List.getLast?_eq_some_iff] at h
      obtain ⟨ys, e⟩ := h
      rw [e, List.dropLast_concat]
    rw [hd, joinNl_snoc] at hj
    simpa using hj
  · rw [if_neg h, hj]
    have : wholeB l = false := by
      cases hw : wholeB l with
      | false => rfl
      | true => exact absurd ((split_last l).2 hw) h
    rw [this]
    exact decide_eq_false (fun e => by have := congrArg List.length e; simp at this)
end Go.Proofs.YtdjpnncehlmehaaDoor
