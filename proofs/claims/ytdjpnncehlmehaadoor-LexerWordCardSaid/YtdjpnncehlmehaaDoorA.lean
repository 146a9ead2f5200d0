/- Contracts of the small functions on bytes. -/
import Derived.Test.YtdjpnncehlmehaaDoorRows
import Derived.Test.YtdjpnncehlmehaaDoorPlain
import Derived.Test.YtdjpnncehlmehaaDoorShelf
import Derived.WalkKit
import Derived.WalkSpells
import Derived.WalkLawsBesides
import Derived.LoopTactic
import Derived.Lib.Hide
import Derived.Outline
namespace Go.Proofs.YtdjpnncehlmehaaDoor
open Go.RowKit

theorem ret_bool {a b : Bool} (h : a = b) : Ending.returned (.bool a) = .returned (.bool b) := by rw [h]
theorem ret_int {k : IntKind} {a b : Int} (h : a = b) : Ending.returned (.int k a) = .returned (.int k b) := by rw [h]

set_option maxHeartbeats 400000 in
theorem begins_any (n : Int) (w : World) :
    Calls Tryd.prog 41 #[.int .u8 n] w fun e w' => e = .returned (.bool (isLet n)) ∧ w = w' := by
  go_enter Tryd.func41, Tryd.ntmps41
  go_wp2
  all_goals (go_ret; refine ⟨ret_bool ?_, rfl⟩; rw [Bool.eq_iff_iff]; simp [isLet]; try omega)
set_option maxHeartbeats 400000 in
theorem decimal_any (n : Int) (w : World) :
    Calls Tryd.prog 53 #[.int .u8 n] w fun e w' => e = .returned (.bool (isDig n)) ∧ w = w' := by
  go_enter Tryd.func53, Tryd.ntmps53
  go_wp2
  all_goals (go_ret; refine ⟨ret_bool ?_, rfl⟩; rw [Bool.eq_iff_iff]; simp [isDig]; try omega)
set_option maxHeartbeats 400000 in
theorem letter_any (n : Int) (w : World) :
    Calls Tryd.prog 43 #[.int .u8 n] w fun e w' => e = .returned (.bool (isLet n)) ∧ w = w' := by
  go_enter Tryd.func43, Tryd.ntmps43
  go_wp2
  all_goals (go_ret; refine ⟨ret_bool ?_, rfl⟩; rw [Bool.eq_iff_iff]; simp [isLet]; try omega)
set_option maxHeartbeats 400000 in
theorem digit_any (n : Int) (w : World) :
    Calls Tryd.prog 44 #[.int .u8 n] w fun e w' => e = .returned (.bool (isDig n)) ∧ w = w' := by
  go_enter Tryd.func44, Tryd.ntmps44
  go_wp2
  all_goals (go_ret; refine ⟨ret_bool ?_, rfl⟩; rw [Bool.eq_iff_iff]; simp [isDig]; try omega)
set_option maxHeartbeats 400000 in
theorem continues_any (n : Int) (w : World) :
    Calls Tryd.prog 42 #[.int .u8 n] w fun e w' => e = .returned (.bool (isCon n)) ∧ w = w' := by
  go_enter Tryd.func42, Tryd.ntmps42
  go_wp2_with (first | (go_at_call 41; refine (begins_any _ _).mono ?_; rintro e w' ⟨rfl, rfl⟩) | (go_at_call 53; refine (decimal_any _ _).mono ?_; rintro e w' ⟨rfl, rfl⟩))
  all_goals (go_ret; refine ⟨ret_bool ?_, rfl⟩; simp_all [isCon])

theorem sp_index : ∀ n : Fin 256, decide (0 ≤ Lib.indexByte [32, 9, 13, 10] (n.val : Int).toNat.toUInt8) = isSp n.val := by decide +kernel
theorem sp_ge (n : Int) (h0 : 0 ≤ n) (h1 : n < 256) : decide (0 ≤ Lib.indexByte [32, 9, 13, 10] n.toNat.toUInt8) = isSp n := by
  obtain ⟨k, rfl⟩ := Int.eq_ofNat_of_zero_le h0
  exact sp_index ⟨k, by omega⟩
set_option maxHeartbeats 400000 in
theorem space_any (n : Int) (w : World) (h0 : 0 ≤ n) (h1 : n < 256) :
    Calls Tryd.prog 27 #[.int .u8 n] w fun e w' => e = .returned (.bool (isSp n)) ∧ w = w' := by
  have H := Lib.hid (sp_ge n h0 h1)
  go_enter Tryd.func27, Tryd.ntmps27
  go_wp2_with fail
  refine (Tryd.strings_IndexByte _ _ _).mono ?_
  rintro e w' ⟨rfl, rfl⟩
  generalize hx : Lib.indexByte (ByteArray.mk #[32, 9, 13, 10]).data.toList n.toNat.toUInt8 = x
  have HX := Lib.hid hx
  clear hx
  go_wp2_with fail
  go_ret
  refine ⟨ret_bool ?_, rfl⟩
  rw [← H.out, ← HX.out]
set_option maxHeartbeats 400000 in
theorem white_any (n : Int) (w : World) :
    Calls Tryd.prog 33 #[.int .u8 n] w fun e w' => e = .returned (.bool (isSp n)) ∧ w = w' := by
  go_enter Tryd.func33, Tryd.ntmps33
  go_wp2
  all_goals (go_ret; refine ⟨ret_bool ?_, rfl⟩; rw [Bool.eq_iff_iff]; simp [isSp]; try omega)

/-- a function value that is a test of bytes, and turns nothing -/
def IsPred (g : Nat) (p : Int → Bool) : Prop := ∀ (n : Int) (w : World), 0 ≤ n → n < 256 → Calls Tryd.prog g #[.int .u8 n] w fun e w' => e = .returned (.bool (p n)) ∧ w = w'
def Plain (g : Nat) : Prop := ∀ (args : Array Value) (w : World), Sem.run Tryd.prog (callFunc g args) w = .ok (.enter g args) w
theorem plain27 : Plain 27 := fun _ _ => by kernel_rfl
theorem plain42 : Plain 42 := fun _ _ => by kernel_rfl
theorem plain53 : Plain 53 := fun _ _ => by kernel_rfl
theorem byte_lt (c : UInt8) : (c.toNat : Int) < 256 := by have := c.toNat_lt; omega

set_option maxHeartbeats 400000 in
theorem prefix_any (s : ByteArray) (g : Nat) (p : Int → Bool) (hg : IsPred g p) (hpl : Plain g) (w : World) (hs : s.size ≤ maxLen) :
    Calls Tryd.prog 28 #[.string s, .func (.func g) #[] #[]] w fun e w' => e = .returned (.int .i64 (run p s.data.toList)) ∧ w = w' := by
  unfold maxLen at hs
  have HG := Lib.hid hg
  clear hg
  unfold Plain at hpl
  go_enter Tryd.func28, Tryd.ntmps28
  go_wp2_with fail
  go_loop [5] (fun i => ∃ k : Nat, k ≤ s.size ∧ i = .int .i64 k ∧ (∀ j, (h : j < s.size) → j < k → p s[j].toNat = true)) (fun i => s.size - (intOf i).toNat)
  case atStart => exact ⟨0, by omega, rfl, by intro j h h'; omega⟩
  case round =>
    obtain ⟨k, hk, rfl, hj⟩ := hrel
    have HJ := Lib.hid hj
    clear hj
    by_cases hlt : k < s.size
    · cases hp : p s[k].toNat
      all_goals
        have HP := Lib.hid hp
        clear hp
        go_wp2_with fail
        refine (HG.out _ _ (by omega) (byte_lt _)).mono ?_
        rw [HP.out]
        rintro e w' ⟨rfl, rfl⟩
        go_wp2_with fail
      · go_ret
        refine ⟨ret_int ?_, rfl⟩
        rw [run_at p s.data.toList k (by simpa using hk) (fun j h h' => HJ.out j (by simpa using h) h') (fun h => HP.out)]
      · go_round
        case rel => exact ⟨k + 1, by omega, by go_num, fun j h h' => by
          rcases Nat.lt_or_ge j k with h1 | h1
          · exact HJ.out j h h1
          · obtain rfl : j = k := by omega
            exact HP.out⟩
        case measure => simp [intOf]; omega
    · go_wp2_with fail
      go_ret
      refine ⟨ret_int ?_, rfl⟩
      rw [run_at p s.data.toList k (by simpa using hk) (fun j h h' => HJ.out j (by simpa using h) h') (fun h => by simp at h; omega)]
end Go.Proofs.YtdjpnncehlmehaaDoor
