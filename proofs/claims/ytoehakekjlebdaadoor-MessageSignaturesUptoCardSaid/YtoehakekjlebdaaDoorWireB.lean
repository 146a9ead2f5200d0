/- The contracts of wire: Put, PutString, PutInts. -/
import Derived.Test.YtoehakekjlebdaaDoorWireL
import Derived.Laws.Bits64
namespace Go.Proofs.YtoehakekjlebdaaDoor
open Go.RowKit

theorem xor_ones (a : Nat) (h : a < 18446744073709551616) : a ^^^ 18446744073709551615 = 18446744073709551615 - a := by
  have h1 := congrArg BitVec.toNat (BitVec.xor_allOnes (x := BitVec.ofNat 64 a))
  rw [BitVec.toNat_xor, BitVec.toNat_not, BitVec.toNat_ofNat, BitVec.toNat_allOnes, Nat.mod_eq_of_lt h] at h1
  exact h1
theorem zig_bits (n : Int) (h0 : -9223372036854775808 ≤ n) (h1 : n ≤ 9223372036854775807) : bits BinOp.xor IntKind.u64 (IntKind.u64.wrap (IntKind.u64.wrap n * 2)) (IntKind.u64.wrap (n / 9223372036854775808)) = (zig n : Nat) := by
  have e2 : IntKind.u64.wrap (IntKind.u64.wrap n * 2) = ((2 * n) % 18446744073709551616).toNat := by
    simp [IntKind.wrap, IntKind.min, IntKind.max, IntKind.signed, IntKind.bits]; omega
  have e3 : IntKind.u64.wrap (n / 9223372036854775808) = ((if 0 ≤ n then 0 else 18446744073709551615 : Nat) : Int) := by
    simp [IntKind.wrap, IntKind.min, IntKind.max, IntKind.signed, IntKind.bits]; split <;> omega
  rw [e2, e3, bits_xor_u64_nat _ _ (by omega) (by split <;> omega)]
  unfold zig
  split
  · rw [Nat.xor_zero]; omega
  · rw [xor_ones _ (by omega)]; omega
set_option maxRecDepth 100000 in
set_option maxHeartbeats 2000000 in
theorem wirePut_any (n : Nat) (hn : n < 18446744073709551616) (w : World) :
    Calls Tryd.prog 71 #[.int .u64 n] w (RetStr (varint n) w) := by
  have H0 := Lib.hid (bst_new w)
  go_enter Tryd.func71, Tryd.ntmps71
  go_wp2_with fail
  refine (put_any n hn w _ [] H0.out (by simp)).mono ?_
  rintro e w1 ⟨rfl, b1⟩
  have B1 := Lib.hid b1
  clear b1
  go_wp2_with fail
  refine (bst_get B1.out).mono ?_
  rintro e w2 ⟨rfl, b2⟩
  go_wp2_with fail
  go_ret
  exact ⟨rfl, b2⟩
set_option maxRecDepth 100000 in
set_option maxHeartbeats 2000000 in
theorem putString_any (s : List UInt8) (hs : s.length ≤ 70368744177664) (w : World) :
    Calls Tryd.prog 52 #[.string ⟨s.toArray⟩] w (RetStr (putStr s) w) := by
  have HP := Lib.hid (wirePut_any s.length (by omega) w)
  have hv := varint_ten s.length (by omega)
  go_enter Tryd.func52, Tryd.ntmps52
  go_wp2_with fail
  refine HP.out.mono ?_
  rintro e w1 ⟨rfl, b1⟩
  have B1 := Lib.hid b1
  clear b1
  go_wp2_with fail
  go_ret
  exact ret_st rfl B1.out
set_option maxRecDepth 100000 in
set_option maxHeartbeats 2000000 in
theorem putInts_any (A : Option Addr) (c : Nat) (l : List Int) (w : World) (hr : Rd w 1 A l.length (intC l)) (hn : l.length ≤ 1099511627776) (ht : ∀ n ∈ l, I64 n) :
    Calls Tryd.prog 51 #[.slice A l.length c] w (RetStr (putInts l) w) := by
  have HR := Lib.hid hr
  have H0 := Lib.hid (bst_new w)
  have HP := Lib.hid (put_any l.length (by omega) w _ [] H0.out (by simp))
  have HI := Lib.hid ht
  have HV := Lib.hid (varint_ten l.length (by omega))
  clear hr ht
  go_enter Tryd.func51, Tryd.ntmps51
  go_wp2_with fail
  refine HP.out.mono ?_
  rintro e w1 ⟨rfl, b1⟩
  have B1 := Lib.hid b1
  clear b1
  go_wp2_with fail
  go_loopw [12] (fun i wr => ∃ k : Nat, i = .int .i64 k ∧ k ≤ l.length ∧ BSt w (varint l.length ++ (l.take k).flatMap fun n => varint (zig n)) wr) (fun i _ => l.length - (intOf i).toNat)
  case atStart => exact ⟨0, rfl, by omega, by simpa using B1.out⟩
  case round =>
    obtain ⟨k, rfl, hk, hb⟩ := hrel
    have HB := Lib.hid hb
    clear hb
    by_cases hlt : k < l.length
    · have i0 : (0 : Int) ≤ (k : Int) := by omega
      have i1 : (k : Int) < (l.length : Int) := by omega
      obtain ⟨g, o, rfl, hg, hcc⟩ := HR.out.cells (by simp [intC]; omega)
      have ca : wr.cell? ⟨g, o + k, none⟩ = some (.int .i64 l[k]) := by
        rw [HB.out.2.1.cell (p := ⟨g, o + k, none⟩) hg]
        exact hcc k _ (by simp [intC, hlt])
      have hI := HI.out l[k] (List.getElem_mem hlt)
      have j0 := hI.1
      have j1 := hI.2
      have HZ := Lib.hid (zig_bits l[k] j0 j1)
      have hl5 : ((l.take k).flatMap fun n => varint (zig n)).length ≤ 10 * l.length := by
        have := ints_len (l.take k) (fun n hn => HI.out n (List.mem_of_mem_take hn))
        have h6 : (l.take k).length ≤ l.length := by simp; omega
        omega
      have hv := HV.out
      have HPk := Lib.hid (put_any (zig l[k]) (zig_lt _ j0 j1) w wr _ HB.out (by simp only [List.length_append]; omega))
      have HE : Hid ((l.take (k + 1)).flatMap (fun n => varint (zig n)) = (l.take k).flatMap (fun n => varint (zig n)) ++ varint (zig l[k])) := Lib.hid (by
        rw [List.take_succ_eq_append_getElem hlt, List.flatMap_append]; simp only [List.flatMap_cons, List.flatMap_nil, List.append_nil])
      clear hcc hI hl5 hv
      go_wp2_with fail
      rw [HZ.out]
      refine HPk.out.mono ?_
      rintro e w2 ⟨rfl, b2⟩
      have B2 := Lib.hid b2
      clear b2
      go_wp2_with fail
      go_roundw
      case rel =>
        refine ⟨k + 1, by go_num, by omega, bst_eq B2.out ?_⟩
        rw [HE.out]; simp
      case measure => simp [intOf]; omega
    · have HE : Hid (varint l.length ++ (l.take k).flatMap (fun n => varint (zig n)) = putInts l) := Lib.hid (by rw [List.take_of_length_le (by omega)]; rfl)
      go_wp2_with fail
      refine (bst_get HB.out).mono ?_
      rintro e w2 ⟨rfl, b2⟩
      go_wp2_with fail
      go_ret
      exact ret_st HE.out.symm b2
end Go.Proofs.YtoehakekjlebdaaDoor
