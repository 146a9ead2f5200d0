/- Parts of valid requests are valid. -/
import Derived.Test.YthmoplkleopahaaDoorEntR
namespace Go.Proofs.YthmoplkleopahaaDoor

theorem inB_mono {a b : List Rq} {r : Rq} (h : ∀ x ∈ a, x ∈ b) (hb : inB b r = false) : inB a r = false := by
  cases ha : inB a r with
  | false => rfl
  | true =>
    exfalso
    obtain ⟨x, hx, hs⟩ := List.any_eq_true.1 ha
    have : inB b r = true := List.any_eq_true.2 ⟨x, h x hx, hs⟩
    rw [hb] at this; cases this
theorem vRq_zero {d : List Rq} {r : Rq} (h : vRq d r = 0) : inB d r = false ∧ ∀ d' : List Rq, inB d' r = false → vRq d' r = 0 := by
  unfold vRq at h ⊢
  split at h
  · simp at h
  · split at h
    · simp at h
    · split at h
      · simp at h
      · split at h
        · simp at h
        · rename_i h1 h2 h3 h4
          refine ⟨by simpa using h4, fun d' hd => ?_⟩
          rw [if_neg h1, if_neg h2, if_neg h3, if_neg (by rw [hd]; decide)]
theorem vRqs_mono : ∀ (l d d' : List Rq), (∀ x ∈ d', x ∈ d) → vRqs d l = 0 → vRqs d' l = 0
  | [], _, _, _, _ => rfl
  | r :: t, d, d', h, hv => by
    rw [vRqs] at hv ⊢
    by_cases h0 : vRq d r = 0
    · rw [if_pos h0] at hv
      obtain ⟨hi, hd⟩ := vRq_zero h0
      rw [if_pos (hd d' (inB_mono h hi))]
      exact vRqs_mono t (d ++ [r]) (d' ++ [r]) (fun x hx => by
        rcases List.mem_append.1 hx with hx | hx
        · exact List.mem_append_left _ (h x hx)
        · exact List.mem_append_right _ hx) hv
    · rw [if_neg h0] at hv
      exact absurd hv h0
theorem vRqs_app : ∀ (a b d : List Rq), vRqs d (a ++ b) = 0 → vRqs d a = 0 ∧ vRqs (d ++ a) b = 0
  | [], b, d, h => by simpa using ⟨rfl, h⟩
  | r :: t, b, d, h => by
    rw [List.cons_append, vRqs] at h
    by_cases h0 : vRq d r = 0
    · rw [if_pos h0] at h
      obtain ⟨i1, i2⟩ := vRqs_app t b (d ++ [r]) h
      exact ⟨by rw [vRqs, if_pos h0]; exact i1, by simpa using i2⟩
    · rw [if_neg h0] at h
      exact absurd h h0
theorem vRqs_part {l x : List Rq} {ls : List (List Rq)} (h : vRqs [] l = 0) (hf : ls.flatten = l) (hx : x ∈ ls) : vRqs [] x = 0 := by
  obtain ⟨a, b, rfl⟩ := List.append_of_mem hx
  rw [List.flatten_append, List.flatten_cons] at hf
  rw [← hf] at h
  obtain ⟨_, h2⟩ := vRqs_app _ _ _ h
  obtain ⟨h3, _⟩ := vRqs_app _ _ _ h2
  exact vRqs_mono x _ [] (by simp) h3
theorem batL_parts {l : List Rq} {k b : Int} (h : batE l k b = 0) : BatOk k b l (batL l k b) ∧ vRqs [] l = 0 ∧ k ≤ 8 := by
  have h1 : batL l k b = match bat k b [] l with | none => [] | some x => x := by unfold batL; rw [if_neg (by omega)]; rfl
  unfold batE at h
  split at h
  · simp at h
  · rename_i hok
    split at h
    · rename_i hv; omega
    · rename_i hv
      refine ⟨?_, by omega, by omega⟩
      cases hb : bat k b [] l with
      | none => rw [hb] at h; simp at h
      | some x =>
        rw [h1, hb]
        have := bat_ok k b l [] [] x (bat_start k b) hb
        simpa using this
/-- a part of the batches is a valid entry, not too large -/
theorem part_valid {l x : List Rq} {k b : Int} (h : batE l k b = 0) (hx : x ∈ batL l k b) : vEn ⟨1, 0, x⟩ = 0 ∧ x ≠ [] ∧ (x.length : Int) ≤ k ∧ ((valE ⟨1, 0, x⟩).length : Int) ≤ b := by
  obtain ⟨hp, hv, h8⟩ := batL_parts h
  have hf := hp.fit x hx
  simp only [fitsB, Bool.and_eq_true, decide_eq_true_eq] at hf
  refine ⟨?_, hp.ne x hx, hf.1, hf.2⟩
  have h1 := vRqs_part hv hp.all hx
  simp only [vEn]
  rw [if_pos trivial, if_neg (by simp), if_neg (by omega)]
  exact h1
theorem not_fits {k b : Int} {x : List Rq} (h : fitsB k b x = false) : ¬ ((x.length : Int) ≤ k ∧ ((valE ⟨1, 0, x⟩).length : Int) ≤ b) := by
  intro hh
  have : fitsB k b x = true := by simp [fitsB, hh]
  rw [h] at this; cases this
end Go.Proofs.YthmoplkleopahaaDoor
