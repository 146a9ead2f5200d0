/- The builder of the call's own, tables of types, small steps: at this program. -/
import Derived.Test.YtikpcebhcnjkhaaGreatDoorRows
import Derived.WalkKit
import Derived.WalkSpells
import Derived.WalkLawsBesides
import Derived.LoopTactic
import Derived.Lib.Hide
import Derived.Outline
import Derived.Deep.QuietTactic
import Derived.BigQuiet
import Derived.IntWalk
import Derived.StillTailTactics
import Derived.Deep.RegionHeld3
import Derived.Deep.RegionWith
import Derived.Laws.Bits64
import Derived.Laws.IdiomStrings
import Derived.Test.YtikpcebhcnjkhaaGreatDoorDPl
import Derived.Test.YtikpcebhcnjkhaaGreatDoorDShelf
namespace Go.Proofs.YtikpcebhcnjkhaaGreatDoor
open Go.RowKit
theorem info_parts {t : TypeId} {x : Option Value × Nat × Nat} (h : (Tryz.prog.info? t).map (fun i => (i.zero, i.size, i.bytes)) = some x) : ∃ i, Tryz.prog.info? t = some i ∧ i.zero = x.1 ∧ i.size = x.2.1 ∧ i.bytes = x.2.2 := by
 cases hi : Tryz.prog.info? t with
 | none => rw [hi] at h; simp at h
 | some i =>
  rw [hi] at h
  simp only [Option.map_some, Option.some.injEq] at h
  subst h
  exact ⟨i, rfl, rfl, rfl, rfl⟩
theorem infoB : (Tryz.prog.info? 5).map (fun i => (i.zero, i.size, i.bytes)) = some (some (.int .u8 0), 1, 1) := by kernel_rfl
theorem infoS : (Tryz.prog.info? 9).map (fun i => (i.zero, i.size, i.bytes)) = some (some (.string ⟨#[]⟩), 1, 16) := by kernel_rfl
theorem infoI : (Tryz.prog.info? 3).map (fun i => (i.zero, i.size, i.bytes)) = some (some (.int .i64 0), 1, 8) := by kernel_rfl
def BSt (w0 : World) (l : List UInt8) (w : World) : Prop := Lib.IsBuilder 207 5 w0.heap.size w0.heap.size (Lib.byteCells l) w ∧ Below w0.heap.size w0 w ∧ w0.heap.size ≤ w.heap.size
theorem bst_new (w : World) : BSt w [] (w.alloc (.cells #[.pointer none, .slice none 0 0] 207)) :=
 ⟨Lib.fresh_isBuilder 207 5 w, (Below.refl _ _).alloc (Nat.le_refl _) _, by simp⟩
theorem bst_str {w0 w : World} {l : List UInt8} (h : BSt w0 l w) (s : ByteArray) (hl : l.length + s.size ≤ 140737488355328) :
    Calls Tryz.prog 134 #[.pointer (some ⟨w0.heap.size, 0, none⟩), .string s] w fun e w' => e = .returned (.tuple #[.int .i64 s.size, .nilIface]) ∧ BSt w0 (l ++ s.data.toList) w' :=
 (Tryz.Builder_WriteString _ _ _ s w h.1 (by simpa [Lib.byteCells] using hl) h.2.2).mono fun _ _ ⟨he, hI, hb⟩ =>
  ⟨he, by have : Lib.byteCells l ++ Lib.strCells s = Lib.byteCells (l ++ s.data.toList) := by simp [Lib.byteCells, Lib.strCells]
          rw [this] at hI; exact .inr hI, h.2.1.trans hb, Nat.le_trans h.2.2 hb.size⟩
theorem bst_byte {w0 w : World} {l : List UInt8} (h : BSt w0 l w) (c : Int) (h0 : 0 ≤ c) (h1 : c < 256) (hl : l.length + 1 ≤ 140737488355328) :
    Calls Tryz.prog 157 #[.pointer (some ⟨w0.heap.size, 0, none⟩), .int .u8 c] w fun e w' => e = .returned .nilIface ∧ BSt w0 (l ++ [c.toNat.toUInt8]) w' :=
 (Tryz.Builder_WriteByte _ _ _ c w h.1 (by simpa [Lib.byteCells] using hl) h.2.2).mono fun _ _ ⟨he, hI, hb⟩ =>
  ⟨he, by rw [byteCells_snoc l c h0 h1] at hI; exact .inr hI, h.2.1.trans hb, Nat.le_trans h.2.2 hb.size⟩
theorem bst_get {w0 w : World} {l : List UInt8} (h : BSt w0 l w) :
    Calls Tryz.prog 135 #[.pointer (some ⟨w0.heap.size, 0, none⟩)] w fun e w' => e = .returned (.string ⟨l.toArray⟩) ∧ Below w0.heap.size w0 w' :=
 (Tryz.Builder_String_any _ _ l w h.1 h.2.2).mono fun _ _ ⟨he, hb⟩ => ⟨he, h.2.1.trans hb⟩
theorem bst_eq {w0 w : World} {l l' : List UInt8} (h : BSt w0 l w) (e : l = l') : BSt w0 l' w := e ▸ h
open Go.RowKit
def Bx (w : World) (cs : List Value) (T : TypeId) (w' : World) : Prop := Below (w.heap.size + 1) (w.alloc (.cells cs.toArray T)) w'
theorem bx_new (w : World) (cs : List Value) (T : TypeId) : Bx w cs T (w.alloc (.cells cs.toArray T)) := Below.refl _ _
theorem bx_low {w w' : World} {cs : List Value} {T : TypeId} (h : Bx w cs T w') : Below w.heap.size w w' := (below_new w _).trans (Below.mono h (by omega))
theorem bx_size {w w' : World} {cs : List Value} {T : TypeId} (h : Bx w cs T w') : w.heap.size + 1 ≤ w'.heap.size := by
 have := Below.size h; simpa using this
theorem bx_cell {w w' : World} {cs : List Value} {T : TypeId} (h : Bx w cs T w') (j : Nat) (v : Value) (hj : cs[j]? = some v) : w'.cell? ⟨w.heap.size, j, none⟩ = some v := by
 have h1 := Below.cell h (p := (⟨w.heap.size, 0, none⟩ : Addr).add j) (by rw [add_off]; simp)
 rw [cell_new w cs T w.heap.size rfl j v hj, add_off, Nat.zero_add] at h1
 exact h1
theorem bx_drew {w w' : World} {cs : List Value} {T : TypeId} (h : Bx w cs T w') : Bx w cs T w'.drew := Below.drew h
theorem bx_alloc {w w' : World} {cs : List Value} {T : TypeId} (h : Bx w cs T w') (o : Obj) : Bx w cs T (w'.alloc o) := Below.alloc h (bx_size h) o
theorem bx_on {w w1 w2 : World} {cs : List Value} {T : TypeId} (h : Bx w cs T w1) (k : Below w1.heap.size w1 w2) : Bx w cs T w2 := Below.trans h (k.mono (bx_size h))
def Gives (w : World) (cs : List Value) (T : TypeId) (l : List UInt8) (e : Ending) (w' : World) : Prop := e = .returned (.string ⟨l.toArray⟩) ∧ Bx w cs T w'
theorem gives_of {P : Program} {k : FuncId} {args : Array Value} {w w1 : World} {cs : List Value} {T : TypeId} {l : List UInt8} (hb : Bx w cs T w1) (h : Calls P k args w1 (RetStr l w1)) : Calls P k args w1 (Gives w cs T l) :=
 h.mono fun _ _ ⟨he, hw⟩ => ⟨he, bx_on hb hw⟩
open Go.RowKit
theorem or128' : ∀ n : Fin 256, bits BinOp.or IntKind.u8 (n.val : Int) 128 = 128 + (n.val : Int) % 128 := by decide +kernel
theorem or128 (n : Int) (h0 : 0 ≤ n) (h1 : n < 256) : bits BinOp.or IntKind.u8 n 128 = 128 + n % 128 := by
 obtain ⟨k, rfl⟩ := Int.eq_ofNat_of_zero_le h0
 exact or128' ⟨k, by omega⟩
def RetNone (w : World) (l : List UInt8) (e : Ending) (w' : World) : Prop := e = .returned (.tuple #[]) ∧ BSt w l w'
theorem varint_split (m : Nat) (h : ¬ m < 128) : varint m = [((128 + (m : Int) % 128).toNat).toUInt8] ++ varint (m / 128) := by
 rw [varint_big m h]
 have : (128 + (m : Int) % 128).toNat = 128 + m % 128 := by omega
 rw [this]; rfl
set_option maxRecDepth 100000 in
set_option maxHeartbeats 2000000 in
theorem put_any (n : Nat) (hn : n < 18446744073709551616) (w0 w : World) (l : List UInt8) (h : BSt w0 l w) (hl : l.length ≤ 70368744177664) :
    Calls Tryz.prog 133 #[.pointer (some ⟨w0.heap.size, 0, none⟩), .int .u64 n] w (RetNone w0 (l ++ varint n)) := by
 have H := hD h
 have HV := hD (varint_ten n hn)
 clear h
 go_enter Tryz.func133, Tryz.ntmps133
 go_wp2_with fail
 go_loopw [1] (fun i wr => ∃ (m : Nat) (p : List UInt8), i = .int .u64 m ∧ m ≤ n ∧ varint n = p ++ varint m ∧ BSt w0 (l ++ p) wr) (fun i _ => (intOf i).toNat)
 case atStart => exact ⟨n, [], rfl, Nat.le_refl _, by simp, by simpa using H.out⟩
 case round =>
  obtain ⟨m, p, rfl, hm, hv, hb⟩ := hrel
  have HB := hD hb
  have HS := hD hv
  have hp := congrArg List.length hv
  rw [List.length_append] at hp
  have hp2 := HV.out
  have HP : Hid ((l ++ p).length + 1 ≤ 140737488355328) := hD (by simp only [List.length_append]; omega)
  clear hb hv hp hp2
  have c1 : (m : Int) % 256 < 256 := by omega
  have c0 : 0 ≤ (m : Int) % 256 := by omega
  by_cases hlt : m < 128
  · have x1 : ¬ (128 : Int) ≤ (m : Int) := by omega
    have c2 : (m : Int) % 256 = m := by omega
    have c3 : (m : Int).toNat.toUInt8 = m.toUInt8 := rfl
    have HW := hD (bst_byte HB.out (m : Int) (by omega) (by omega) HP.out)
    go_wp2_with fail
    refine HW.out.mono ?_
    rintro e w1 ⟨rfl, b1⟩
    go_wp2_with fail
    go_end0
    exact ⟨rfl, bst_eq b1 (by rw [HS.out, varint_small m hlt, List.append_assoc]; rfl)⟩
  · have x1 : (128 : Int) ≤ (m : Int) := by omega
    have HO := hD (or128 _ c0 c1)
    have HW := hD (fun x (hx : x = bits BinOp.or IntKind.u8 ((m : Int) % 256) 128) => bst_byte HB.out x (by rw [hx, HO.out]; omega) (by rw [hx, HO.out]; omega) HP.out)
    go_wp2_with fail
    refine (HW.out _ rfl).mono ?_
    rintro e w1 ⟨rfl, b1⟩
    rw [HO.out] at b1
    have HB1 := hD b1
    clear b1
    go_wp2_with fail
    go_roundw
    case rel =>
     refine ⟨m / 128, p ++ [((128 + (m : Int) % 128).toNat).toUInt8], by go_num, by omega, by rw [HS.out, varint_split m hlt, List.append_assoc], bst_eq HB1.out ?_⟩
     rw [List.append_assoc]
     have : (m : Int) % 256 % 128 = (m : Int) % 128 := by omega
     rw [this]
    case measure => simp [intOf]; omega
open Go.RowKit
set_option maxRecDepth 100000 in
set_option maxHeartbeats 2000000 in
theorem putList_any (A : Option Addr) (c : Nat) (l : List (List UInt8)) (w : World) (hr : Rd w 1 A l.length (strC l)) (hn : l.length ≤ 1099511627776) (ht : tot l ≤ 17592186044416) :
    Calls Tryz.prog 100 #[.slice A l.length c] w (RetStr (putList l) w) := by
 have HR := hD hr
 have H0 := hD (bst_new w)
 have HP := hD (put_any l.length (by omega) w _ [] H0.out (by simp))
 have HT := hD (tot_take l)
 have HG := hD (tot_get l)
 have HV := hD (varint_ten l.length (by omega))
 clear hr
 go_enter Tryz.func100, Tryz.ntmps100
 go_wp2_with fail
 refine HP.out.mono ?_
 rintro e w1 ⟨rfl, b1⟩
 have B1 := hD b1
 clear b1
 go_wp2_with fail
 go_loopw [12] (fun i wr => ∃ k : Nat, i = .int .i64 k ∧ k ≤ l.length ∧ BSt w (varint l.length ++ (l.take k).flatMap putStr) wr) (fun i _ => l.length - (intOf i).toNat)
 case atStart => exact ⟨0, rfl, by omega, by simpa using B1.out⟩
 case round =>
  obtain ⟨k, rfl, hk, hb⟩ := hrel
  have HB := hD hb
  clear hb
  by_cases hlt : k < l.length
  · have i0 : (0 : Int) ≤ (k : Int) := by omega
    have i1 : (k : Int) < (l.length : Int) := by omega
    obtain ⟨g, o, rfl, hg, hcc⟩ := HR.out.cells (by simp [strC]; omega)
    have HR2 := hD (HR.out.below HB.out.2.1)
    have ca : wr.cell? ⟨g, o + k, none⟩ = some (.string ⟨(l[k]).toArray⟩) := by
     rw [HB.out.2.1.cell (p := ⟨g, o + k, none⟩) hg]
     exact hcc k _ (by simp [strC, hlt])
    have hs1 := HT.out k
    have hs2 := HG.out k hlt
    have hs4 := HV.out
    have hs5 : ((l.take k).flatMap putStr).length ≤ 10 * l.length + tot l := by
     have := strs_len (l.take k) (by omega)
     have h6 : (l.take k).length ≤ l.length := by simp; omega
     omega
    have hv := varint_ten (l[k]).length (by omega)
    have HPk := hD (put_any (l[k]).length (by omega) w wr _ HB.out (by simp only [List.length_append]; omega))
    have HE : Hid ((l.take (k + 1)).flatMap putStr = (l.take k).flatMap putStr ++ (varint (l[k]).length ++ l[k])) := hD (by
     rw [List.take_succ_eq_append_getElem hlt, List.flatMap_append]; simp only [List.flatMap_cons, List.flatMap_nil, List.append_nil, putStr])
    have HL : Hid ((varint l.length ++ (l.take k).flatMap putStr ++ varint (l[k]).length).length + (ByteArray.mk (l[k]).toArray).size ≤ 140737488355328) := hD (by
     rw [size_mk]; simp only [List.length_append]; omega)
    have hs6 : (l[k]).length ≤ 17592186044416 := by omega
    clear hcc hs1 hs2 hs4 hs5 hv
    go_wp2_with fail
    refine HPk.out.mono ?_
    rintro e w2 ⟨rfl, b2⟩
    have HW := hD (bst_str b2 ⟨(l[k]).toArray⟩ HL.out)
    clear b2
    go_wp2_with fail
    refine HW.out.mono ?_
    rintro e w3 ⟨rfl, b3⟩
    have B3 := hD b3
    clear b3
    go_wp2_with fail
    go_roundw
    case rel =>
     refine ⟨k + 1, by go_num, by omega, bst_eq B3.out ?_⟩
     rw [HE.out]; simp
    case measure => simp [intOf]; omega
  · have HE : Hid (varint l.length ++ (l.take k).flatMap putStr = putList l) := hD (by rw [List.take_of_length_le (by omega)]; rfl)
    go_wp2_with fail
    refine (bst_get HB.out).mono ?_
    rintro e w2 ⟨rfl, b2⟩
    go_wp2_with fail
    go_ret
    exact ret_st HE.out.symm b2
open Go.RowKit
theorem xor_ones (a : Nat) (h : a < 18446744073709551616) : a ^^^ 18446744073709551615 = 18446744073709551615 - a := by
 have h1 := congrArg BitVec.toNat (BitVec.xor_allOnes (x := BitVec.ofNat 64 a))
 rw [BitVec.toNat_xor, BitVec.toNat_not, BitVec.toNat_ofNat, BitVec.toNat_allOnes, Nat.mod_eq_of_lt h] at h1
 exact h1
theorem zig_bits (n : Int) (h0 : -9223372036854775808 ≤ n) (h1 : n ≤ 9223372036854775807) : bits BinOp.xor IntKind.u64 (IntKind.u64.wrap (IntKind.u64.wrap n * 2)) (IntKind.u64.wrap (n / 9223372036854775808)) = (zig n : Nat) := by
 have e2 : IntKind.u64.wrap (IntKind.u64.wrap n * 2) = ((2 * n) % 18446744073709551616).toNat := by
  simp [IntKind.wrap, IntKind.signed, IntKind.bits]; omega
 have e3 : IntKind.u64.wrap (n / 9223372036854775808) = ((if 0 ≤ n then 0 else 18446744073709551615 : Nat) : Int) := by
  simp [IntKind.wrap, IntKind.signed, IntKind.bits]; split <;> omega
 rw [e2, e3, bits_xor_u64_nat _ _ (by omega) (by split <;> omega)]
 unfold zig
 split
 · rw [Nat.xor_zero]; omega
 · rw [xor_ones _ (by omega)]; omega
set_option maxRecDepth 100000 in
set_option maxHeartbeats 2000000 in
theorem wirePut_any (n : Nat) (hn : n < 18446744073709551616) (w : World) :
    Calls Tryz.prog 143 #[.int .u64 n] w (RetStr (varint n) w) := by
 have H0 := hD (bst_new w)
 go_enter Tryz.func143, Tryz.ntmps143
 go_wp2_with fail
 refine (put_any n hn w _ [] H0.out (by simp)).mono ?_
 rintro e w1 ⟨rfl, b1⟩
 have B1 := hD b1
 clear b1
 go_wp2_with fail
 refine (bst_get B1.out).mono ?_
 rintro e w2 ⟨rfl, b2⟩
 go_wp2_with fail
 go_ret
 exact ⟨rfl, b2⟩
set_option maxRecDepth 100000 in
set_option maxHeartbeats 2000000 in
theorem putString_any (s : List UInt8) (hs : s.length ≤ 70368744177664) (w : World) :
    Calls Tryz.prog 113 #[.string ⟨s.toArray⟩] w (RetStr (putStr s) w) := by
 have HP := hD (wirePut_any s.length (by omega) w)
 have hv := varint_ten s.length (by omega)
 go_enter Tryz.func113, Tryz.ntmps113
 go_wp2_with fail
 refine HP.out.mono ?_
 rintro e w1 ⟨rfl, b1⟩
 have B1 := hD b1
 clear b1
 go_wp2_with fail
 go_ret
 exact ret_st rfl B1.out
set_option maxRecDepth 100000 in
set_option maxHeartbeats 2000000 in
theorem putInts_any (A : Option Addr) (c : Nat) (l : List Int) (w : World) (hr : Rd w 1 A l.length (intC l)) (hn : l.length ≤ 1099511627776) (ht : ∀ n ∈ l, I64 n) :
    Calls Tryz.prog 144 #[.slice A l.length c] w (RetStr (putInts l) w) := by
 have HR := hD hr
 have H0 := hD (bst_new w)
 have HP := hD (put_any l.length (by omega) w _ [] H0.out (by simp))
 have HI := hD ht
 have HV := hD (varint_ten l.length (by omega))
 clear hr ht
 go_enter Tryz.func144, Tryz.ntmps144
 go_wp2_with fail
 refine HP.out.mono ?_
 rintro e w1 ⟨rfl, b1⟩
 have B1 := hD b1
 clear b1
 go_wp2_with fail
 go_loopw [12] (fun i wr => ∃ k : Nat, i = .int .i64 k ∧ k ≤ l.length ∧ BSt w (varint l.length ++ (l.take k).flatMap fun n => varint (zig n)) wr) (fun i _ => l.length - (intOf i).toNat)
 case atStart => exact ⟨0, rfl, by omega, by simpa using B1.out⟩
 case round =>
  obtain ⟨k, rfl, hk, hb⟩ := hrel
  have HB := hD hb
  clear hb
  by_cases hlt : k < l.length
  · have i0 : (0 : Int) ≤ (k : Int) := by omega
    have i1 : (k : Int) < (l.length : Int) := by omega
    obtain ⟨g, o, rfl, hg, hcc⟩ := HR.out.cells (by simp [intC]; omega)
    have ca : wr.cell? ⟨g, o + k, none⟩ = some (.int .i64 l[k]) := by
     rw [HB.out.2.1.cell (p := ⟨g, o + k, none⟩) hg]
     exact hcc k _ (by simp [intC, hlt])
    have hI := HI.out l[k] (List.getElem_mem hlt)
    have j0 := hI.1
    have j1 := hI.2
    have HZ := hD (zig_bits l[k] j0 j1)
    have hl5 : ((l.take k).flatMap fun n => varint (zig n)).length ≤ 10 * l.length := by
     have := ints_len (l.take k) (fun n hn => HI.out n (List.mem_of_mem_take hn))
     have h6 : (l.take k).length ≤ l.length := by simp; omega
     omega
    have hv := HV.out
    have HPk := hD (put_any (zig l[k]) (zig_lt _ j0 j1) w wr _ HB.out (by simp only [List.length_append]; omega))
    have HE : Hid ((l.take (k + 1)).flatMap (fun n => varint (zig n)) = (l.take k).flatMap (fun n => varint (zig n)) ++ varint (zig l[k])) := hD (by
     rw [List.take_succ_eq_append_getElem hlt, List.flatMap_append]; simp only [List.flatMap_cons, List.flatMap_nil, List.append_nil])
    clear hcc hI hl5 hv
    go_wp2_with fail
    rw [HZ.out]
    refine HPk.out.mono ?_
    rintro e w2 ⟨rfl, b2⟩
    have B2 := hD b2
    clear b2
    go_wp2_with fail
    go_roundw
    case rel =>
     refine ⟨k + 1, by go_num, by omega, bst_eq B2.out ?_⟩
     rw [HE.out]; simp
    case measure => simp [intOf]; omega
  · have HE : Hid (varint l.length ++ (l.take k).flatMap (fun n => varint (zig n)) = putInts l) := hD (by rw [List.take_of_length_le (by omega)]; rfl)
    go_wp2_with fail
    refine (bst_get HB.out).mono ?_
    rintro e w2 ⟨rfl, b2⟩
    go_wp2_with fail
    go_ret
    exact ret_st HE.out.symm b2
open Go.RowKit
theorem gives_ints {P : Program} {k : FuncId} {w w1 : World} {cs : List Value} {T : TypeId} (l : List Int) (_hl : l.length ≤ 100) (_hi : ∀ n ∈ l, I64 n)
    (hc : ∀ (A : Option Addr) (c : Nat) (w : World), Rd w 1 A l.length (intC l) → Calls P k #[.slice A l.length c] w (RetStr (putInts l) w)) (hb : Bx w cs T (w1.alloc (.cells (intC l).toArray 3)).drew) {g : Nat} (hg : w1.heap.size = g) :
    Calls P k #[.slice (some ⟨g, 0, none⟩) l.length l.length] (w1.alloc (.cells (intC l).toArray 3)).drew (Gives w cs T (putInts l)) :=
 hg ▸ gives_of hb (hc _ _ _ ((rd_new w1 1 l.length (intC l) 3 (by simp [intC])).below (Below.refl _ _).drew))
end Go.Proofs.YtikpcebhcnjkhaaGreatDoor
