/- The contracts of the reference's list and value. -/
import Derived.Test.YthmoplkleopahaaDoorRefC
import Derived.Test.YthmoplkleopahaaDoorEntE
namespace Go.Proofs.YthmoplkleopahaaDoor
open Go.RowKit

set_option maxRecDepth 100000 in
set_option maxHeartbeats 2000000 in
theorem refList_any (A : Option Addr) (c : Nat) (l : List (List UInt8)) (w : World) (hr : Rd w 1 A l.length (strC l)) (hn : l.length < 16384) (hx : ∀ x ∈ l, x.length < 16384) :
    Calls Tryd.prog 46 #[.slice A l.length c] w (RetStr (putList l) w) := by
  have HR := Lib.hid hr
  have HP := Lib.hid (refPut_any l.length hn w)
  have HX := Lib.hid hx
  have HV := Lib.hid (varint_ten l.length (by omega))
  clear hr hx
  go_enter Tryd.func46, Tryd.ntmps46
  go_wp2_with fail
  refine HP.out.mono ?_
  rintro e w1 ⟨rfl, b1⟩
  have B1 := Lib.hid b1
  clear b1
  go_wp2_with fail
  go_loopw [3, 4] (fun o i wr => ∃ (k : Nat) (p : List UInt8), i = .int .i64 k ∧ k ≤ l.length ∧ o = .string ⟨p.toArray⟩ ∧ Below w.heap.size w wr ∧ p = varint l.length ++ (l.take k).flatMap putStr ∧ p.length ≤ 10 + 17000 * k) (fun _ i _ => l.length - (intOf i).toNat)
  case atStart => exact ⟨0, varint l.length, rfl, by omega, rfl, B1.out, by simp, HV.out⟩
  case round =>
    obtain ⟨k, p, rfl, hk, rfl, hb, he0, hpl⟩ := hrel
    have HB := Lib.hid hb
    have HE0 := Lib.hid he0
    clear hb he0
    by_cases hlt : k < l.length
    · have i0 : (0 : Int) ≤ (k : Int) := by omega
      have i1 : (k : Int) < (l.length : Int) := by omega
      obtain ⟨g, o, rfl, hg, hcc⟩ := HR.out.cells (by simp [strC]; omega)
      have HC : Hid (∀ W, Below w.heap.size w W → W.cell? ⟨g, o + k, none⟩ = some (.string ⟨(l[k]).toArray⟩)) := Lib.hid (fun W hW => (hW.cell (p := ⟨g, o + k, none⟩) hg).trans (hcc k _ (by simp [strC, hlt])))
      have hxk := HX.out l[k] (List.getElem_mem hlt)
      have hv2 := varint_ten (l[k]).length (by omega)
      have hb0 := HB.out
      have HPk : Hid (∀ W, Below w.heap.size w W → Calls Tryd.prog 62 #[.int .i64 ((l[k]).length : Int)] W fun e w' => e = .returned (.string ⟨(varint (l[k]).length).toArray⟩) ∧ Below w.heap.size w w') := Lib.hid (fun W hW => (refPut_any (l[k]).length hxk W).mono fun _ _ ⟨a, b⟩ => ⟨a, bon hW b⟩)
      have HE : Hid (varint l.length ++ (l.take (k + 1)).flatMap putStr = varint l.length ++ (l.take k).flatMap putStr ++ varint (l[k]).length ++ l[k]) := Lib.hid (by
        rw [List.take_succ_eq_append_getElem hlt, List.flatMap_append]; simp only [List.flatMap_cons, List.flatMap_nil, List.append_nil, putStr, List.append_assoc])
      have s1 : ¬ (9223372036854775807 < p.length + (varint (l[k]).length).length) := by omega
      have s2 : ¬ (9223372036854775807 < p.length + (varint (l[k]).length).length + (l[k]).length) := by omega
      clear hcc
      go_wp2_with fail
      go_region_held3 (fun W => W.cell? ⟨g, o + k, none⟩ = some (.string ⟨(l[k]).toArray⟩))
        (first | exact HC.out _ (Below.drew ‹Below w.heap.size w _›) | exact HC.out _ ‹Below w.heap.size w _›)
        (first | (go_at_call 62; refine (HPk.out _ (by first | assumption | exact Below.drew ‹Below w.heap.size w _›)).mono ?_; rintro e w2 ⟨rfl, b2⟩))
      all_goals
        have B2 := Lib.hid b2
        clear b2 hb0 s1 s2
        go_wp2_with fail
        go_roundw
        case rel =>
          refine ⟨k + 1, p ++ varint (l[k]).length ++ l[k], by go_num, by omega, by rw [str_cat, str_cat], B2.out, by rw [HE.out, HE0.out], ?_⟩
          simp only [List.length_append]
          omega
        case measure => simp [intOf]; omega
    · have HE : Hid (varint l.length ++ (l.take k).flatMap putStr = putList l) := Lib.hid (by rw [List.take_of_length_le (by omega)]; rfl)
      go_wp2_with fail
      go_ret
      exact ret_st (by rw [HE0.out, HE.out]) HB.out
end Go.Proofs.YthmoplkleopahaaDoor
