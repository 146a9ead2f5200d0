/- The contracts of the reference's codes: Put, Zigzag, PutString, PutInts, PutList. -/
import Derived.Test.YtoehakekjlebdaaDoorWireB
import Derived.Laws.IdiomStrings
namespace Go.Proofs.YtoehakekjlebdaaDoor
open Go.RowKit

theorem own_str (w : World) (p : List UInt8) (A : Option Addr) (n c : Nat) (hn : n = p.length) (hp : 0 < p.length) (h : Rd w 1 A n (Lib.byteCells p)) :
    Sem.run Tryd.prog (convert 85 9 (.slice A n c)) w = .ok (.string ⟨p.toArray⟩) w := by
  subst hn
  obtain ⟨b, o, rfl, _, hc⟩ := h.cells (by simpa [Lib.byteCells] using hp)
  exact run_convert_bytes_back w _ _ 5 ⟨b, o, none⟩ c p Tryd.underlying85 Tryd.underlying5 Tryd.underlying9 (fun j hj => by
    rw [add_plain']
    exact hc j _ (by simp [Lib.byteCells, hj]))
theorem byteCells_one (p : List UInt8) (c : Int) (h0 : 0 ≤ c) (h1 : c < 256) : Lib.byteCells p ++ [.int .u8 c] = Lib.byteCells (p ++ [c.toNat.toUInt8]) := byteCells_snoc p c h0 h1
set_option maxRecDepth 100000 in
set_option maxHeartbeats 2000000 in
theorem refPut_any (n : Nat) (hn : n < 18446744073709551616) (w : World) :
    Calls Tryd.prog 67 #[.int .u64 n] w (RetStr (varint n) w) := by
  obtain ⟨i0, hi, hz0, hz1, hz2⟩ := info_parts infoB
  have HI := Lib.hid hi
  have HZ0 := Lib.hid hz0
  have HZ1 := Lib.hid hz1
  have HZ2 := Lib.hid hz2
  have HV := Lib.hid (varint_ten n hn)
  clear hi hz0 hz1 hz2
  go_enter Tryd.func67, Tryd.ntmps67
  go_wp2_with fail
  go_loopw [0, 3] (fun i o wr => ∃ (m : Nat) (p : List UInt8), i = .int .u64 m ∧ m ≤ n ∧ varint n = p ++ varint m ∧ wr.ownsRow w.heap.size 5 1 o p.length (Lib.byteCells p) ∧ Below w.heap.size w wr ∧ w.heap.size ≤ wr.heap.size) (fun i _ _ => (intOf i).toNat)
  case atStart => exact ⟨n, [], rfl, Nat.le_refl _, by simp, World.ownsRow_nil _ _ _ _, Below.refl _ _, Nat.le_refl _⟩
  case round =>
    obtain ⟨m, p, rfl, hm, hv, hown, hb, hge⟩ := hrel
    have HO := Lib.hid hown
    have HB := Lib.hid hb
    have HS := Lib.hid hv
    have hp := congrArg List.length hv
    rw [List.length_append] at hp
    have hp2 := HV.out
    have hp3 : p.length ≤ 10 := by omega
    clear hb hv hown hp hp2
    by_cases hlt : m < 128
    · have x1 : ¬ (128 : Int) ≤ (m : Int) := by omega
      have c2 : (m : Int) % 256 = m := by omega
      go_wp2_with (at_builtin; refine wpList_append_own _ rfl _ _ 85 rfl w.heap.size 5 i0 _ 1 1 Tryd.underlying85 HI.out HZ0.out HZ1.out HZ2.out rfl (by decide) _ _ _ rfl (HO.out.alloc _) ⟨wr.heap.size, 0, none⟩ 1 1 [.int .u8 (m : Int)] rfl rfl (cell_new _ _ _ _ rfl) (by simp [Value.oneCell']) (by simp [maxLen]; omega) (by omega) (by simp; omega) ?_)
      intro v' w2 hown' hgrow _
      rw [byteCells_snoc p (m : Int) (by omega) (by omega)] at hown'
      obtain ⟨A, c, hv⟩ := ownsRow_form hown'
      subst hv
      have hcv := own_str w2 _ A (p.length + 1) c (by simp) (by simp) (Rd.own hown')
      have HG2 := Lib.hid hgrow
      clear hown' hgrow
      go_wp2_with fail
      go_ret
      refine ret_st (by rw [HS.out, varint_small m hlt]) (below_grown (HB.out.alloc hge _) (by simp; omega) HG2.out (fun g hg => (HO.out.lt g hg).1))
    · have x1 : (128 : Int) ≤ (m : Int) := by omega
      go_wp2_with (at_builtin; refine wpList_append_own _ rfl _ _ 85 rfl w.heap.size 5 i0 _ 1 1 Tryd.underlying85 HI.out HZ0.out HZ1.out HZ2.out rfl (by decide) _ _ _ rfl (HO.out.alloc _) ⟨wr.heap.size, 0, none⟩ 1 1 [.int .u8 (128 + (m : Int) % 128)] rfl rfl (cell_new _ _ _ _ rfl) (by simp [Value.oneCell']) (by simp [maxLen]; omega) (by omega) (by simp; omega) ?_)
      intro v' w2 hown' hgrow _
      rw [byteCells_snoc p (128 + (m : Int) % 128) (by omega) (by omega)] at hown'
      have HO2 := Lib.hid hown'
      have HG2 := Lib.hid hgrow
      clear hown' hgrow
      go_wp2_with fail
      go_roundw
      case rel =>
        refine ⟨m / 128, p ++ [((128 + (m : Int) % 128).toNat).toUInt8], by go_num, by omega, by rw [HS.out, varint_split m hlt, List.append_assoc], ?_, below_grown (HB.out.alloc hge _) (by simp; omega) HG2.out (fun g hg => (HO.out.lt g hg).1), ?_⟩
        · have h9 := HO2.out; simpa using h9
        · have := HG2.out.size; simp at this; omega
      case measure => simp [intOf]; omega
set_option maxHeartbeats 400000 in
theorem zigzag_any (n : Int) (h0 : -9223372036854775808 ≤ n) (h1 : n ≤ 9223372036854775807) (w : World) :
    Calls Tryd.prog 68 #[.int .i64 n] w fun e w' => e = .returned (.int .u64 (zig n : Nat)) ∧ w = w' := by
  by_cases h : 0 ≤ n
  · have hz : Hid ((zig n : Int) = 2 * n) := Lib.hid (by unfold zig; rw [if_pos h]; omega)
    go_enter Tryd.func68, Tryd.ntmps68
    go_wp2_with fail
    go_ret
    exact ⟨ret_int (by rw [hz.out]), rfl⟩
  · have hz : Hid ((zig n : Int) = -2 * n - 1) := Lib.hid (by unfold zig; rw [if_neg h]; omega)
    go_enter Tryd.func68, Tryd.ntmps68
    go_wp2_with fail
    go_ret
    exact ⟨ret_int (by rw [hz.out]; omega), rfl⟩
set_option maxRecDepth 100000 in
set_option maxHeartbeats 2000000 in
theorem refPutString_any (s : List UInt8) (hs : s.length ≤ 70368744177664) (w : World) :
    Calls Tryd.prog 39 #[.string ⟨s.toArray⟩] w (RetStr (putStr s) w) := by
  have HP := Lib.hid (refPut_any s.length (by omega) w)
  have hv := varint_ten s.length (by omega)
  go_enter Tryd.func39, Tryd.ntmps39
  go_wp2_with fail
  refine HP.out.mono ?_
  rintro e w1 ⟨rfl, b1⟩
  have B1 := Lib.hid b1
  clear b1
  go_wp2_with fail
  go_ret
  exact ret_st rfl B1.out
set_option maxRecDepth 100000 in
set_option maxHeartbeats 2000000 in
theorem refPutList_any (A : Option Addr) (c : Nat) (l : List (List UInt8)) (w : World) (hr : Rd w 1 A l.length (strC l)) (hn : l.length ≤ 1099511627776) (ht : tot l ≤ 17592186044416) :
    Calls Tryd.prog 41 #[.slice A l.length c] w (RetStr (putList l) w) := by
  have HR := Lib.hid hr
  have HP := Lib.hid (refPut_any l.length (by omega) w)
  have HT := Lib.hid (tot_take l)
  have HG := Lib.hid (tot_get l)
  have HV := Lib.hid (varint_ten l.length (by omega))
  clear hr
  go_enter Tryd.func41, Tryd.ntmps41
  go_wp2_with fail
  refine HP.out.mono ?_
  rintro e w1 ⟨rfl, b1⟩
  have B1 := Lib.hid b1
  clear b1
  go_wp2_with fail
  go_loopw [3, 4] (fun o i wr => ∃ (k : Nat) (p : List UInt8), i = .int .i64 k ∧ k ≤ l.length ∧ o = .string ⟨p.toArray⟩ ∧ Below w.heap.size w wr ∧ p = varint l.length ++ (l.take k).flatMap putStr) (fun _ i _ => l.length - (intOf i).toNat)
  case atStart => exact ⟨0, varint l.length, rfl, by omega, rfl, B1.out, by simp⟩
  case round =>
    obtain ⟨k, p, rfl, hk, rfl, hb, he0⟩ := hrel
    have HB := Lib.hid hb
    have HE0 := Lib.hid he0
    clear hb he0
    by_cases hlt : k < l.length
    · have i0 : (0 : Int) ≤ (k : Int) := by omega
      have i1 : (k : Int) < (l.length : Int) := by omega
      obtain ⟨g, o, rfl, hg, hcc⟩ := HR.out.cells (by simp [strC]; omega)
      have ca : wr.cell? ⟨g, o + k, none⟩ = some (.string ⟨(l[k]).toArray⟩) := by
        rw [HB.out.cell (p := ⟨g, o + k, none⟩) hg]
        exact hcc k _ (by simp [strC, hlt])
      have hs1 := HT.out k
      have hs2 := HG.out k hlt
      have hs4 := HV.out
      have hs5 : ((l.take k).flatMap putStr).length ≤ 10 * l.length + tot l := by
        have := strs_len (l.take k) (by omega)
        have h6 : (l.take k).length ≤ l.length := by simp; omega
        omega
      have hs6 : (l[k]).length ≤ 17592186044416 := by omega
      have hs7 : p.length ≤ 35184372088832 := by rw [HE0.out]; simp only [List.length_append]; omega
      have hs8 := putStr_len (l[k]) (by omega)
      have HPk := Lib.hid (refPutString_any (l[k]) (by omega) wr)
      have HE : Hid ((l.take (k + 1)).flatMap putStr = (l.take k).flatMap putStr ++ putStr (l[k])) := Lib.hid (by
        rw [List.take_succ_eq_append_getElem hlt, List.flatMap_append]; simp only [List.flatMap_cons, List.flatMap_nil, List.append_nil])
      clear hcc hs1 hs2 hs4 hs5
      go_wp2_with fail
      refine HPk.out.mono ?_
      rintro e w2 ⟨rfl, b2⟩
      have B2 := Lib.hid b2
      clear b2
      go_wp2_with fail
      go_roundw
      case rel =>
        refine ⟨k + 1, _, by go_num, by omega, by rw [str_cat], bon HB.out B2.out, ?_⟩
        rw [HE.out, HE0.out, List.append_assoc]
      case measure => simp [intOf]; omega
    · have HE : Hid (varint l.length ++ (l.take k).flatMap putStr = putList l) := Lib.hid (by rw [List.take_of_length_le (by omega)]; rfl)
      go_wp2_with fail
      go_ret
      exact ret_st (by rw [HE0.out, HE.out]) HB.out
set_option maxRecDepth 100000 in
set_option maxHeartbeats 2000000 in
theorem refPutInts_any (A : Option Addr) (c : Nat) (l : List Int) (w : World) (hr : Rd w 1 A l.length (intC l)) (hn : l.length ≤ 1099511627776) (ht : ∀ n ∈ l, I64 n) :
    Calls Tryd.prog 38 #[.slice A l.length c] w (RetStr (putInts l) w) := by
  have HR := Lib.hid hr
  have HP := Lib.hid (refPut_any l.length (by omega) w)
  have HI := Lib.hid ht
  have HV := Lib.hid (varint_ten l.length (by omega))
  clear hr ht
  go_enter Tryd.func38, Tryd.ntmps38
  go_wp2_with fail
  refine HP.out.mono ?_
  rintro e w1 ⟨rfl, b1⟩
  have B1 := Lib.hid b1
  clear b1
  go_wp2_with fail
  go_loopw [3, 4] (fun o i wr => ∃ (k : Nat) (p : List UInt8), i = .int .i64 k ∧ k ≤ l.length ∧ o = .string ⟨p.toArray⟩ ∧ Below w.heap.size w wr ∧ p = varint l.length ++ (l.take k).flatMap fun n => varint (zig n)) (fun _ i _ => l.length - (intOf i).toNat)
  case atStart => exact ⟨0, varint l.length, rfl, by omega, rfl, B1.out, by simp⟩
  case round =>
    obtain ⟨k, p, rfl, hk, rfl, hb, he0⟩ := hrel
    have HB := Lib.hid hb
    have HE0 := Lib.hid he0
    clear hb he0
    by_cases hlt : k < l.length
    · have i0 : (0 : Int) ≤ (k : Int) := by omega
      have i1 : (k : Int) < (l.length : Int) := by omega
      obtain ⟨g, o, rfl, hg, hcc⟩ := HR.out.cells (by simp [intC]; omega)
      have ca : wr.cell? ⟨g, o + k, none⟩ = some (.int .i64 l[k]) := by
        rw [HB.out.cell (p := ⟨g, o + k, none⟩) hg]
        exact hcc k _ (by simp [intC, hlt])
      have hI := HI.out l[k] (List.getElem_mem hlt)
      have hl5 : ((l.take k).flatMap fun n => varint (zig n)).length ≤ 10 * l.length := by
        have := ints_len (l.take k) (fun n hn => HI.out n (List.mem_of_mem_take hn))
        have h6 : (l.take k).length ≤ l.length := by simp; omega
        omega
      have hv := HV.out
      have hs7 : p.length ≤ 35184372088832 := by rw [HE0.out]; simp only [List.length_append]; omega
      have hs8 := varint_ten (zig l[k]) (zig_lt _ hI.1 hI.2)
      have HZ := Lib.hid (zigzag_any l[k] hI.1 hI.2)
      have HPk := Lib.hid (refPut_any (zig l[k]) (zig_lt _ hI.1 hI.2))
      have HE : Hid ((l.take (k + 1)).flatMap (fun n => varint (zig n)) = (l.take k).flatMap (fun n => varint (zig n)) ++ varint (zig l[k])) := Lib.hid (by
        rw [List.take_succ_eq_append_getElem hlt, List.flatMap_append]; simp only [List.flatMap_cons, List.flatMap_nil, List.append_nil])
      clear hcc hI hl5 hv
      go_wp2_with fail
      refine (HZ.out _).mono ?_
      rintro e w2 ⟨rfl, rfl⟩
      go_wp2_with fail
      refine (HPk.out _).mono ?_
      rintro e w2 ⟨rfl, b2⟩
      have B2 := Lib.hid b2
      clear b2
      go_wp2_with fail
      go_roundw
      case rel =>
        refine ⟨k + 1, _, by go_num, by omega, by rw [str_cat], bon HB.out B2.out, ?_⟩
        rw [HE.out, HE0.out, List.append_assoc]
      case measure => simp [intOf]; omega
    · have HE : Hid (varint l.length ++ (l.take k).flatMap (fun n => varint (zig n)) = putInts l) := Lib.hid (by rw [List.take_of_length_le (by omega)]; rfl)
      go_wp2_with fail
      go_ret
      exact ret_st (by rw [HE0.out, HE.out]) HB.out
end Go.Proofs.YtoehakekjlebdaaDoor
