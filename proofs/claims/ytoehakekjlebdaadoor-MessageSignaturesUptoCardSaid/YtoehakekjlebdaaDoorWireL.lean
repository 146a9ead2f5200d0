/- The contract of wire.PutList. -/
import Derived.Test.YtoehakekjlebdaaDoorWireA
namespace Go.Proofs.YtoehakekjlebdaaDoor
open Go.RowKit

set_option maxRecDepth 100000 in
set_option maxHeartbeats 2000000 in
theorem putList_any (A : Option Addr) (c : Nat) (l : List (List UInt8)) (w : World) (hr : Rd w 1 A l.length (strC l)) (hn : l.length ≤ 1099511627776) (ht : tot l ≤ 17592186044416) :
    Calls Tryd.prog 59 #[.slice A l.length c] w (RetStr (putList l) w) := by
  have HR := Lib.hid hr
  have H0 := Lib.hid (bst_new w)
  have HP := Lib.hid (put_any l.length (by omega) w _ [] H0.out (by simp))
  have HT := Lib.hid (tot_take l)
  have HG := Lib.hid (tot_get l)
  have HV := Lib.hid (varint_ten l.length (by omega))
  clear hr
  go_enter Tryd.func59, Tryd.ntmps59
  go_wp2_with fail
  refine HP.out.mono ?_
  rintro e w1 ⟨rfl, b1⟩
  have B1 := Lib.hid b1
  clear b1
  go_wp2_with fail
  go_loopw [12] (fun i wr => ∃ k : Nat, i = .int .i64 k ∧ k ≤ l.length ∧ BSt w (varint l.length ++ (l.take k).flatMap putStr) wr) (fun i _ => l.length - (intOf i).toNat)
  case atStart => exact ⟨0, rfl, by omega, by simpa using B1.out⟩
  case round =>
    obtain ⟨k, rfl, hk, hb⟩ := hrel
    have HB := Lib.hid hb
    clear hb
    by_cases hlt : k < l.length
    · have i0 : (0 : Int) ≤ (k : Int) := by omega
      have i1 : (k : Int) < (l.length : Int) := by omega
      obtain ⟨g, o, rfl, hg, hcc⟩ := HR.out.cells (by simp [strC]; omega)
      have HR2 := Lib.hid (HR.out.below HB.out.2.1)
      have ca : wr.cell? ⟨g, o + k, none⟩ = some (.string ⟨(l[k]).toArray⟩) := by
        rw [HB.out.2.1.cell (p := ⟨g, o + k, none⟩) hg]
        exact hcc k _ (by simp [strC, hlt])
      have hs1 := HT.out k
      have hs2 := HG.out k hlt
      have hs4 := HV.out
      have hs5 : ((l.take k).flatMap putStr).length ≤ 10 * l.length + tot l := by
        have := strs_len (l.take k) (by omega)
        have h6 : (l.take k).length ≤ l.length := by simp; omega
        omega
      have hv := varint_ten (l[k]).length (by omega)
      have HPk := Lib.hid (put_any (l[k]).length (by omega) w wr _ HB.out (by simp only [List.length_append]; omega))
      have HE : Hid ((l.take (k + 1)).flatMap putStr = (l.take k).flatMap putStr ++ (varint (l[k]).length ++ l[k])) := Lib.hid (by
        rw [List.take_succ_eq_append_getElem hlt, List.flatMap_append]; simp only [List.flatMap_cons, List.flatMap_nil, List.append_nil, putStr])
      have HL : Hid ((varint l.length ++ (l.take k).flatMap putStr ++ varint (l[k]).length).length + (ByteArray.mk (l[k]).toArray).size ≤ 140737488355328) := Lib.hid (by
        rw [size_mk]; simp only [List.length_append]; omega)
      have hs6 : (l[k]).length ≤ 17592186044416 := by omega
      clear hcc hs1 hs2 hs4 hs5 hv
      go_wp2_with fail
      refine HPk.out.mono ?_
      rintro e w2 ⟨rfl, b2⟩
      have HW := Lib.hid (bst_str b2 ⟨(l[k]).toArray⟩ HL.out)
      clear b2
      go_wp2_with fail
      refine HW.out.mono ?_
      rintro e w3 ⟨rfl, b3⟩
      have B3 := Lib.hid b3
      clear b3
      go_wp2_with fail
      go_roundw
      case rel =>
        refine ⟨k + 1, by go_num, by omega, bst_eq B3.out ?_⟩
        rw [HE.out]; simp
      case measure => simp [intOf]; omega
    · have HE : Hid (varint l.length ++ (l.take k).flatMap putStr = putList l) := Lib.hid (by rw [List.take_of_length_le (by omega)]; rfl)
      go_wp2_with fail
      refine (bst_get HB.out).mono ?_
      rintro e w2 ⟨rfl, b2⟩
      go_wp2_with fail
      go_ret
      exact ret_st HE.out.symm b2
end Go.Proofs.YtoehakekjlebdaaDoor
