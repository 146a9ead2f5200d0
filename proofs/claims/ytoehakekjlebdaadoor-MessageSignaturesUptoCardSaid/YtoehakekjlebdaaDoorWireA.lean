/- The contracts of wire: put. -/
import Derived.Test.YtoehakekjlebdaaDoorBase
namespace Go.Proofs.YtoehakekjlebdaaDoor
open Go.RowKit

theorem or128' : ∀ n : Fin 256, bits BinOp.or IntKind.u8 (n.val : Int) 128 = 128 + (n.val : Int) % 128 := by decide +kernel
theorem or128 (n : Int) (h0 : 0 ≤ n) (h1 : n < 256) : bits BinOp.or IntKind.u8 n 128 = 128 + n % 128 := by
  obtain ⟨k, rfl⟩ := Int.eq_ofNat_of_zero_le h0
  exact or128' ⟨k, by omega⟩
def RetNone (w : World) (l : List UInt8) (e : Ending) (w' : World) : Prop := e = .returned (.tuple #[]) ∧ BSt w l w'
theorem varint_split (m : Nat) (h : ¬ m < 128) : varint m = [((128 + (m : Int) % 128).toNat).toUInt8] ++ varint (m / 128) := by
  rw [varint_big m h]
  have : (128 + (m : Int) % 128).toNat = 128 + m % 128 := by omega
  rw [this]; rfl
set_option maxRecDepth 100000 in
set_option maxHeartbeats 2000000 in
theorem put_any (n : Nat) (hn : n < 18446744073709551616) (w0 w : World) (l : List UInt8) (h : BSt w0 l w) (hl : l.length ≤ 70368744177664) :
    Calls Tryd.prog 70 #[.pointer (some ⟨w0.heap.size, 0, none⟩), .int .u64 n] w (RetNone w0 (l ++ varint n)) := by
  have H := Lib.hid h
  have HV := Lib.hid (varint_ten n hn)
  clear h
  go_enter Tryd.func70, Tryd.ntmps70
  go_wp2_with fail
  go_loopw [1] (fun i wr => ∃ (m : Nat) (p : List UInt8), i = .int .u64 m ∧ m ≤ n ∧ varint n = p ++ varint m ∧ BSt w0 (l ++ p) wr) (fun i _ => (intOf i).toNat)
  case atStart => exact ⟨n, [], rfl, Nat.le_refl _, by simp, by simpa using H.out⟩
  case round =>
    obtain ⟨m, p, rfl, hm, hv, hb⟩ := hrel
    have HB := Lib.hid hb
    have HS := Lib.hid hv
    have hp := congrArg List.length hv
    rw [List.length_append] at hp
    have hp2 := HV.out
    have HP : Hid ((l ++ p).length + 1 ≤ 140737488355328) := Lib.hid (by simp only [List.length_append]; omega)
    clear hb hv hp hp2
    have c1 : (m : Int) % 256 < 256 := by omega
    have c0 : 0 ≤ (m : Int) % 256 := by omega
    by_cases hlt : m < 128
    · have x1 : ¬ (128 : Int) ≤ (m : Int) := by omega
      have c2 : (m : Int) % 256 = m := by omega
      have c3 : (m : Int).toNat.toUInt8 = m.toUInt8 := rfl
      have HW := Lib.hid (bst_byte HB.out (m : Int) (by omega) (by omega) HP.out)
      go_wp2_with fail
      refine HW.out.mono ?_
      rintro e w1 ⟨rfl, b1⟩
      go_wp2_with fail
      go_end0
      exact ⟨rfl, bst_eq b1 (by rw [HS.out, varint_small m hlt, List.append_assoc]; rfl)⟩
    · have x1 : (128 : Int) ≤ (m : Int) := by omega
      have HO := Lib.hid (or128 _ c0 c1)
      have HW := Lib.hid (fun x (hx : x = bits BinOp.or IntKind.u8 ((m : Int) % 256) 128) => bst_byte HB.out x (by rw [hx, HO.out]; omega) (by rw [hx, HO.out]; omega) HP.out)
      go_wp2_with fail
      refine (HW.out _ rfl).mono ?_
      rintro e w1 ⟨rfl, b1⟩
      rw [HO.out] at b1
      have HB1 := Lib.hid b1
      clear b1
      go_wp2_with fail
      go_roundw
      case rel =>
        refine ⟨m / 128, p ++ [((128 + (m : Int) % 128).toNat).toUInt8], by go_num, by omega, by rw [HS.out, varint_split m hlt, List.append_assoc], bst_eq HB1.out ?_⟩
        rw [List.append_assoc]
        have : (m : Int) % 256 % 128 = (m : Int) % 128 := by omega
        rw [this]
      case measure => simp [intOf]; omega
end Go.Proofs.YtoehakekjlebdaaDoor
