/- The contracts of entry.valid, entry.Valid. -/
import Derived.Test.YthmoplkleopahaaDoorEntA
import Derived.Deep.RegionWith
namespace Go.Proofs.YthmoplkleopahaaDoor
open Go.RowKit

theorem flat_take {α : Type} (C : α → List Value) (m : Nat) (hC : ∀ x, (C x).length = m) (l : List α) (k : Nat) : (l.take k).flatMap C = (l.flatMap C).take (k * m) := by
  induction l generalizing k with
  | nil => simp
  | cons x r ih =>
    cases k with
    | zero => simp
    | succ k =>
      rw [List.take_succ_cons, List.flatMap_cons, List.flatMap_cons, ih, List.take_append, hC, Nat.succ_mul, List.take_of_length_le (l := C x) (by rw [hC]; omega), show k * m + m - m = k * m from by omega]
theorem Rd.take {α : Type} {w : World} {m : Nat} {A : Option Addr} {l : List α} {C : α → List Value} (h : Rd w m A l.length (l.flatMap C)) (hC : ∀ x, (C x).length = m) {k : Nat} (hk : k ≤ l.length) : Rd w m A k ((l.take k).flatMap C) := by
  have h2 : (l.take k).length = k := by simp; omega
  refine ⟨by rw [flat_len C m hC, h2], fun hp => ?_⟩
  have hle : (l.take k).flatMap C = (l.flatMap C).take (k * m) := flat_take C m hC l k
  rw [hle, List.length_take] at hp
  obtain ⟨b, o, e, hb, hc⟩ := h.cells (by omega)
  refine ⟨b, o, e, hb, fun j u hu => hc j u ?_⟩
  rw [hle, List.getElem?_take] at hu
  split at hu
  · exact hu
  · simp at hu
def RetErr (n : Int) (w : World) (e : Ending) (w' : World) : Prop := e = .returned (.int .i64 n) ∧ Below w.heap.size w w'
theorem ret_er {n m : Int} {w w' : World} (h : n = m) (hb : Below w.heap.size w w') : RetErr n w (.returned (.int .i64 m)) w' := ⟨by rw [h], hb⟩
theorem vRqs_at (l : List Rq) (k : Nat) (h : k < l.length) : vRqs (l.take k) (l.drop k) = if vRq (l.take k) l[k] = 0 then vRqs (l.take (k + 1)) (l.drop (k + 1)) else vRq (l.take k) l[k] := by
  rw [List.drop_eq_getElem_cons h, vRqs, List.take_succ_eq_append_getElem h]
/-- the three ways of a request's error -/
theorem vRq_ways (done : List Rq) (r : Rq) : ((r.client < 0 ∨ 6 ≤ r.client ∨ r.number < 1 ∨ 1000000 < r.number) ∧ vRq done r = 7) ∨
    ((0 ≤ r.client ∧ r.client < 6 ∧ 1 ≤ r.number ∧ r.number ≤ 1000000) ∧ ((r.op = [] ∧ vRq done r = 9) ∨ (r.op ≠ [] ∧ ((200 < r.op.length ∧ vRq done r = 3) ∨ (r.op.length ≤ 200 ∧ ((inB done r = true ∧ vRq done r = 5) ∨ (inB done r = false ∧ vRq done r = 0))))))) := by
  unfold vRq
  by_cases h1 : r.client < 0 ∨ 6 ≤ r.client ∨ r.number < 1 ∨ 1000000 < r.number
  · exact .inl ⟨h1, by rw [if_pos h1]⟩
  · rw [if_neg h1]
    refine .inr ⟨by omega, ?_⟩
    by_cases h2 : r.op = []
    · exact .inl ⟨h2, by rw [if_pos h2]⟩
    · rw [if_neg h2]
      refine .inr ⟨h2, ?_⟩
      by_cases h3 : 200 < r.op.length
      · exact .inl ⟨h3, by rw [if_pos h3]⟩
      · rw [if_neg h3]
        refine .inr ⟨by omega, ?_⟩
        cases inB done r
        · exact .inr ⟨rfl, by simp⟩
        · exact .inl ⟨rfl, by simp⟩
set_option maxRecDepth 100000 in
set_option maxHeartbeats 4000000 in
theorem valid_any (A : Option Addr) (c : Nat) (l : List Rq) (w : World) (hr : Rd w 3 A l.length (l.flatMap rqC)) (hc : l.length ≤ c) (_hcc : c ≤ 9223372036854775807) (hn : l.length ≤ 9223372036854775807) (ho : ∀ r ∈ l, r.op.length ≤ 9223372036854775807) :
    Calls Tryd.prog 33 #[.slice A l.length c] w (RetErr (vRqs [] l) w) := by
  have HR := Lib.hid hr
  have HOp := Lib.hid ho
  clear hr ho
  go_enter Tryd.func33, Tryd.ntmps33
  go_wp2_with fail
  go_loopw [7] (fun i wr => ∃ k : Nat, i = .int .i64 k ∧ k ≤ l.length ∧ vRqs [] l = vRqs (l.take k) (l.drop k) ∧ Below w.heap.size w wr) (fun i _ => l.length - (intOf i).toNat)
  case atStart => exact ⟨0, rfl, by omega, rfl, Below.refl _ _⟩
  case round =>
    obtain ⟨k, rfl, hk, hv, hb⟩ := hrel
    have HB := Lib.hid hb
    have HV := Lib.hid hv
    clear hb hv
    by_cases hlt : k < l.length
    · have i0 : (0 : Int) ≤ (k : Int) := by omega
      have i1 : (k : Int) < (l.length : Int) := by omega
      have HT := Lib.hid (HR.out.take rqC_len (Nat.le_of_lt hlt))
      obtain ⟨g, o, rfl, hg, hcell⟩ := HR.out.at rqC_len (by omega) hlt
      have a0 := hcell wr HB.out 0 _ rfl
      have a1 := hcell wr HB.out 1 _ rfl
      have a2 := hcell wr HB.out 2 _ rfl
      clear hcell
      simp only [Nat.add_zero] at a0
      have HV1 := Lib.hid (HV.out.trans (vRqs_at l k hlt))
      have hop := HOp.out l[k] (List.getElem_mem hlt)
      rcases vRq_ways (l.take k) l[k] with ⟨hbad, he⟩ | ⟨⟨r0, r1, r2, r3⟩, hrest⟩
      · have HY : Hid (vRqs [] l = 7) := Lib.hid (by rw [HV1.out, he, if_neg (by decide)])
        clear he
        rcases hbad with h | h | h | h
        all_goals
          go_wp2_with fail
          all_goals
            go_ret
            exact ret_er HY.out (HB.out.alloc HB.out.size _)
      · have q0 : ¬ l[k].client < 0 := by omega
        have q1 : ¬ 6 ≤ l[k].client := by omega
        have q2 : ¬ l[k].number < 1 := by omega
        have q3 : ¬ 1000000 < l[k].number := by omega
        rcases hrest with ⟨hop0, he⟩ | ⟨hop0, ⟨hlen, he⟩ | ⟨hlen, ⟨hin, he⟩ | ⟨hin, he⟩⟩⟩
        · have HY : Hid (vRqs [] l = 9) := Lib.hid (by rw [HV1.out, he, if_neg (by decide)])
          have hemp : l[k].op.isEmpty = true := by rw [hop0]; rfl
          clear he hop0
          go_wp2_with fail
          go_ret
          exact ret_er HY.out (HB.out.alloc HB.out.size _)
        · have HY : Hid (vRqs [] l = 3) := Lib.hid (by rw [HV1.out, he, if_neg (by decide)])
          have hemp : l[k].op.isEmpty = false := by simpa using hop0
          clear he hop0
          go_wp2_with fail
          go_ret
          exact ret_er HY.out (HB.out.alloc HB.out.size _)
        · have HY : Hid (vRqs [] l = 5) := Lib.hid (by rw [HV1.out, he, if_neg (by decide)])
          have hemp : l[k].op.isEmpty = false := by simpa using hop0
          have HI : Hid (∀ W, Below w.heap.size w W → Calls Tryd.prog 43 #[.slice (some ⟨g, o, none⟩) k c, .agg #[.int .i64 l[k].client, .int .i64 l[k].number, .string ⟨l[k].op.toArray⟩]] W fun e w' => e = .returned (.bool true) ∧ Below w.heap.size w w') := Lib.hid (fun W hb => by
            have hl : (l.take k).length = k := by simp; omega
            have h := in_any (some ⟨g, o, none⟩) c (l.take k) l[k] W (by rw [hl]; exact HT.out.below hb) (by rw [hl]; omega)
            rw [hl, hin] at h
            exact h.mono fun _ _ ⟨a, b⟩ => ⟨a, bon hb b⟩)
          have hbw : Below w.heap.size w (wr.alloc (.cells #[.int .i64 l[k].client, .int .i64 l[k].number, .string ⟨l[k].op.toArray⟩] 42)) := HB.out.alloc HB.out.size _
          clear he hop0 hin
          go_wp2_with fail
          go_region_with (go_at_call 43; refine (HI.out _ (by repeat' (first | assumption | apply Below.drew))).mono ?_; rintro e w2 ⟨rfl, b2⟩)
          all_goals
            go_wp2_with fail
            go_ret
            exact ret_er HY.out ‹_›
        · have HV2 : Hid (vRqs [] l = vRqs (l.take (k + 1)) (l.drop (k + 1))) := Lib.hid (by rw [HV1.out, he, if_pos rfl])
          have hemp : l[k].op.isEmpty = false := by simpa using hop0
          have HI : Hid (∀ W, Below w.heap.size w W → Calls Tryd.prog 43 #[.slice (some ⟨g, o, none⟩) k c, .agg #[.int .i64 l[k].client, .int .i64 l[k].number, .string ⟨l[k].op.toArray⟩]] W fun e w' => e = .returned (.bool false) ∧ Below w.heap.size w w') := Lib.hid (fun W hb => by
            have hl : (l.take k).length = k := by simp; omega
            have h := in_any (some ⟨g, o, none⟩) c (l.take k) l[k] W (by rw [hl]; exact HT.out.below hb) (by rw [hl]; omega)
            rw [hl, hin] at h
            exact h.mono fun _ _ ⟨a, b⟩ => ⟨a, bon hb b⟩)
          have hbw : Below w.heap.size w (wr.alloc (.cells #[.int .i64 l[k].client, .int .i64 l[k].number, .string ⟨l[k].op.toArray⟩] 42)) := HB.out.alloc HB.out.size _
          clear he hop0 hin
          go_wp2_with fail
          go_region_with (go_at_call 43; refine (HI.out _ (by repeat' (first | assumption | apply Below.drew))).mono ?_; rintro e w2 ⟨rfl, b2⟩)
          all_goals
            have B2 := Lib.hid b2
            clear b2
            go_wp2_with fail
            go_roundw
            case rel => exact ⟨k + 1, by go_num, by omega, HV2.out, B2.out⟩
            case measure => simp [intOf]; omega
    · have HY : Hid (vRqs [] l = 0) := Lib.hid (by rw [HV.out, List.drop_eq_nil_of_le (by omega), vRqs])
      go_wp2_with fail
      go_ret
      exact ret_er HY.out HB.out
end Go.Proofs.YthmoplkleopahaaDoor
