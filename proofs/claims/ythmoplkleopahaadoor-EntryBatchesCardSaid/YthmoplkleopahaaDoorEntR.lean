/- What a value shows, how requests are divided, which are fresh. -/
import Derived.Test.YthmoplkleopahaaDoorEntQ
namespace Go.Proofs.YthmoplkleopahaaDoor

/-! the text of a value -/
def partR (r : Rq) : List UInt8 := [99] ++ Lib.itoa r.client ++ [35] ++ Lib.itoa r.number ++ [32] ++ r.op
def joinS (sep : List UInt8) : List (List UInt8) → List UInt8
  | [] => []
  | [x] => x
  | x :: y :: r => x ++ sep ++ joinS sep (y :: r)
theorem joinS_snoc (sep : List UInt8) (l : List (List UInt8)) (x : List UInt8) : joinS sep (l ++ [x]) = if l = [] then x else joinS sep l ++ sep ++ x := by
  induction l with
  | nil => rfl
  | cons y t ih =>
    rw [if_neg (by simp)]
    cases t with
    | nil => rfl
    | cons z t => 
      rw [List.cons_append, List.cons_append, joinS, ← List.cons_append, ih, if_neg (by simp), joinS]
      simp
def showE : Option En → List UInt8
  | none => [105, 110, 118, 97, 108, 105, 100]
  | some e => if e.kind = 2 then wJoin ++ [32] ++ Lib.itoa e.cfg else if e.kind = 3 then wFinish else if e.rs = [] then [110, 111, 111, 112] else wBatch ++ [32] ++ joinS [59, 32] (e.rs.map partR)

/-! batches -/
def fitsB (k b : Int) (l : List Rq) : Bool := decide ((l.length : Int) ≤ k) && decide (((valE ⟨1, 0, l⟩).length : Int) ≤ b)
def bat (k b : Int) : List (List Rq) → List Rq → Option (List (List Rq))
  | out, [] => some out
  | out, r :: t =>
    if fitsB k b [r] = false then none
    else if out ≠ [] ∧ fitsB k b (out.getLastD [] ++ [r]) = true then bat k b (out.dropLast ++ [out.getLastD [] ++ [r]]) t
    else bat k b (out ++ [[r]]) t
def batE (l : List Rq) (k b : Int) : Int := if k < 1 ∨ 8 < k ∨ b < 1 ∨ 2000 < b then 7 else if vRqs [] l ≠ 0 then vRqs [] l else match bat k b [] l with
  | none => 3
  | some _ => 0
def batL (l : List Rq) (k b : Int) : List (List Rq) := if batE l k b ≠ 0 then [] else match bat k b [] l with
  | none => []
  | some x => x
/-- what batches are, behind each step -/
structure BatOk (k b : Int) (pre : List Rq) (out : List (List Rq)) : Prop where
  all : out.flatten = pre
  ne : ∀ x ∈ out, x ≠ []
  fit : ∀ x ∈ out, fitsB k b x = true
  apart : ∀ (i : Nat) (h : i + 1 < out.length) (r : Rq) (t : List Rq), out[i + 1] = r :: t → fitsB k b (out[i] ++ [r]) = false
theorem last_split {α : Type} (out : List (List α)) (h : out ≠ []) : out = out.dropLast ++ [out.getLastD []] := by
  obtain ⟨x, y, rfl⟩ : ∃ x y, out = x ++ [y] := ⟨out.dropLast, out.getLast h, (List.dropLast_concat_getLast h).symm⟩
  simp
theorem bat_ok (k b : Int) : ∀ (l pre : List Rq) (out res : List (List Rq)), BatOk k b pre out → bat k b out l = some res → BatOk k b (pre ++ l) res
  | [], pre, out, res, h, e => by
    simp only [bat, Option.some.injEq] at e
    subst e
    simpa using h
  | r :: t, pre, out, res, h, e => by
    rw [bat] at e
    split at e
    · simp at e
    · rename_i hf
      have hf' : fitsB k b [r] = true := by simpa using hf
      split at e
      · rename_i hc
        obtain ⟨hne, hfit⟩ := hc
        have hs := last_split out hne
        generalize hx : out.dropLast = x at hs e
        generalize hy : out.getLastD [] = y at hs e hfit
        subst hs
        have := bat_ok k b t (pre ++ [r]) _ res ?_ e
        · simpa using this
        · refine ⟨?_, ?_, ?_, ?_⟩
          · rw [← h.all]; simp
          · intro z hz
            simp only [List.mem_append, List.mem_cons, List.not_mem_nil, or_false] at hz
            rcases hz with hz | rfl
            · exact h.ne z (by simp [hz])
            · simp
          · intro z hz
            simp only [List.mem_append, List.mem_cons, List.not_mem_nil, or_false] at hz
            rcases hz with hz | rfl
            · exact h.fit z (by simp [hz])
            · exact hfit
          · intro i hi r' t' ht
            simp only [List.length_append, List.length_cons, List.length_nil] at hi
            have hyne : y ≠ [] := h.ne y (by simp)
            have hi' : i < x.length := by omega
            rw [List.getElem_append_left hi']
            by_cases hlast : i + 1 = x.length
            · have h1 : (x ++ [y ++ [r]])[i + 1]'(by simp; omega) = y ++ [r] := by
                rw [List.getElem_append_right (by omega)]; simp [hlast]
              rw [h1] at ht
              obtain ⟨y0, yt, rfl⟩ : ∃ y0 yt, y = y0 :: yt := by
                cases y with
                | nil => exact absurd rfl hyne
                | cons a b => exact ⟨a, b, rfl⟩
              simp only [List.cons_append, List.cons.injEq] at ht
              obtain ⟨rfl, _⟩ := ht
              have := h.apart i (by simp; omega) y0 yt (by rw [List.getElem_append_right (by omega)]; simp [hlast])
              rwa [List.getElem_append_left hi'] at this
            · rw [List.getElem_append_left (by omega)] at ht
              have := h.apart i (by simp; omega) r' t' (by rw [List.getElem_append_left (by omega)]; exact ht)
              rwa [List.getElem_append_left hi'] at this
      · rename_i hc
        have := bat_ok k b t (pre ++ [r]) _ res ?_ e
        · simpa using this
        · refine ⟨?_, ?_, ?_, ?_⟩
          · rw [← h.all]; simp
          · intro z hz
            simp only [List.mem_append, List.mem_cons, List.not_mem_nil, or_false] at hz
            rcases hz with hz | rfl
            · exact h.ne z hz
            · simp
          · intro z hz
            simp only [List.mem_append, List.mem_cons, List.not_mem_nil, or_false] at hz
            rcases hz with hz | rfl
            · exact h.fit z hz
            · exact hf'
          · intro i hi r' t' ht
            simp only [List.length_append, List.length_cons, List.length_nil] at hi
            have hi' : i < out.length := by omega
            rw [List.getElem_append_left hi']
            by_cases hlast : i + 1 = out.length
            · have hne : out ≠ [] := by intro h0; subst h0; simp at hi'
              have h1 : (out ++ [[r]])[i + 1]'(by simp; omega) = [r] := by
                rw [List.getElem_append_right (by omega)]; simp [hlast]
              rw [h1] at ht
              simp only [List.cons.injEq] at ht
              obtain ⟨rfl, _⟩ := ht
              have hl : out.getLastD [] = out[i] := by
                rw [List.getLastD_eq_getLast?, List.getLast?_eq_getElem?, show out.length - 1 = i from by omega, List.getElem?_eq_getElem hi']
                rfl
              have h2 : ¬ fitsB k b (out.getLastD [] ++ [r]) = true := fun h3 => hc ⟨hne, h3⟩
              rw [hl] at h2
              simpa using h2
            · rw [List.getElem_append_left (by omega)] at ht
              exact h.apart i (by omega) r' t' ht
theorem bat_start (k b : Int) : BatOk k b [] [] := ⟨rfl, by simp, by simp, by simp⟩
/-- what the two loops have in hand: the batches so far and what is left -/
theorem bat_left (k b : Int) (l : List Rq) (i : Nat) (h : i < l.length) (out : List (List Rq)) : bat k b out (l.drop i) = if fitsB k b [l[i]] = false then none else if out ≠ [] ∧ fitsB k b (out.getLastD [] ++ [l[i]]) = true then bat k b (out.dropLast ++ [out.getLastD [] ++ [l[i]]]) (l.drop (i + 1)) else bat k b (out ++ [[l[i]]]) (l.drop (i + 1)) := by
  rw [List.drop_eq_getElem_cons h, bat]

/-! fresh requests -/
noncomputable def seenV (values : List (List UInt8)) : List Rq := values.flatMap fun s => match decE s with
  | none => []
  | some e => e.rs
def fresh (seen : List Rq) : List Rq → List Rq → List Rq
  | out, [] => out
  | out, r :: t => if inB (seen ++ out) r = true then fresh seen out t else fresh seen (out ++ [r]) t
theorem inB_app (a b : List Rq) (r : Rq) : inB (a ++ b) r = (inB a r || inB b r) := by simp [inB]
theorem fresh_left (seen out l : List Rq) (i : Nat) (h : i < l.length) : fresh seen out (l.drop i) = if inB (seen ++ out) l[i] = true then fresh seen out (l.drop (i + 1)) else fresh seen (out ++ [l[i]]) (l.drop (i + 1)) := by
  rw [List.drop_eq_getElem_cons h, fresh]
end Go.Proofs.YthmoplkleopahaaDoor
