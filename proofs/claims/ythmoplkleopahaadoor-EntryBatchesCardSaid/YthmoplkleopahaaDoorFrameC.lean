/- Arguments that are rows: requests, strings. -/
import Derived.Test.YthmoplkleopahaaDoorFrameB
import Derived.SliceStrings
namespace Go.Proofs.YthmoplkleopahaaDoor.frame
open Go.Joins Go.ChangeShapes Go.WideShapes Go.ChangeAt Go.RowKit Go.Deep
section
variable {H : Type} {enc : TypeId × Value → H} {W : World}
set_option maxRecDepth 100000 in
theorem one_cell {t e : TypeId} {base : Nat} {v : Value} (ht : Tryd.prog.underlying t = some (.slice e)) (hv : Value.okWide Tryd.prog W .any base t v) : v.cells.toList = [v] := by
  obtain ⟨a, n, c, rfl⟩ := okWide_slice ht hv
  rfl
set_option maxRecDepth 100000 in
theorem reqs_arg {base : Nat} {v : Value} {d : DataW H} {p : List MemPlace} (hv : Value.okWide Tryd.prog W .any base 22 v) (h : DataW.Trod enc Tryd.prog W 0 (fun _ => true) true 22 v d p) :
    ∃ (A : Option Addr) (c : Nat) (l : List Rq), v = .slice A l.length c ∧ RqIn W A c l ∧ ∀ r ∈ l, I64 r.client ∧ I64 r.number := by
  obtain ⟨n, hn⟩ := h
  rw [one_cell Tryd.underlying22 hv] at hn
  exact reqs_in hn
set_option maxRecDepth 100000 in
theorem strs_arg {base : Nat} {v : Value} {d : DataW H} {p : List MemPlace} (hv : Value.okWide Tryd.prog W .any base 45 v) (h : DataW.Trod enc Tryd.prog W 0 (fun _ => true) true 45 v d p) :
    ∃ (A : Option Addr) (c : Nat) (l : List (List UInt8)), v = .slice A l.length c ∧ Rd W 1 A l.length (strC l) ∧ l.length ≤ 9223372036854775807 ∧ ∀ x ∈ l, x.length ≤ 9223372036854775807 := by
  obtain ⟨n, hn⟩ := h
  rw [one_cell Tryd.underlying45 hv] at hn
  have hmx : maxLen = 9223372036854775807 := by decide
  rcases open_strings Tryd.underlying45 Tryd.underlying9 (by kernel_rfl) hn with ⟨hv, _⟩ | ⟨a, len, cap, ss, hv, _, hlc, hcm, hsl, _, hc, hsz⟩
  · simp only [List.cons.injEq, and_true] at hv
    subst hv
    exact ⟨none, 0, [], rfl, Rd.nil _ _ _, by simp, by simp⟩
  · simp only [List.cons.injEq, and_true] at hv
    subst hv
    have hle : len ≤ ss.length := by rw [hsl]; simp; omega
    refine ⟨some a, cap, (ss.take len).map (·.data.toList), by simp; omega, ⟨by simp [strC], fun hp => ?_⟩, by simp; omega, fun x hx => ?_⟩
    · have hpos : 0 < len := by simp [strC] at hp; omega
      obtain ⟨b, o, sp⟩ := a
      have h0 := hc 0 (by omega)
      have hsp : sp = none := by simpa [Addr.add] using World.cell?_spot h0
      subst hsp
      refine ⟨b, o, rfl, World.block_lt_of_cell? W _ h0, fun j u hu => ?_⟩
      have hj : j < len := by
        have := (List.getElem?_eq_some_iff.1 hu).1
        simp [strC] at this
        omega
      have h1 := hc j (by omega)
      rw [add_plain'] at h1
      have h2 : ss.getD j ByteArray.empty = ss[j]'(by omega) := by simp [List.getD, List.getElem?_eq_getElem (show j < ss.length by omega)]
      rw [h2] at h1
      have h3 : u = .string (ss[j]'(by omega)) := by
        simp [strC, hj, List.getElem?_eq_getElem (show j < ss.length by omega)] at hu
        exact hu.symm
      rw [h1, h3]
    · simp only [List.mem_map] at hx
      obtain ⟨s, hs, rfl⟩ := hx
      have := hsz s (List.mem_of_mem_take hs)
      simp
      omega
end
end Go.Proofs.YthmoplkleopahaaDoor.frame
