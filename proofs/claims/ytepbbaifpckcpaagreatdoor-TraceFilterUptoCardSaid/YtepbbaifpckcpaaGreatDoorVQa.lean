/- Contracts of the small functions on bytes. -/
import Derived.Test.YtepbbaifpckcpaaGreatDoorRows
import Derived.WalkKit
import Derived.WalkSpells
import Derived.WalkLawsBesides
import Derived.LoopTactic
import Derived.Lib.Hide
import Derived.Outline
import Derived.Deep.QuietTactic
import Derived.BigQuiet
import Derived.IntWalk
import Derived.Test.YtepbbaifpckcpaaGreatDoorVPl
import Derived.Test.YtepbbaifpckcpaaGreatDoorVShelf
namespace Go.Proofs.YtepbbaifpckcpaaGreatDoor.Q06
open Go.Proofs.YtepbbaifpckcpaaGreatDoor
open Go.RowKit
theorem ret_bool {a b : Bool} (h : a = b) : Ending.returned (.bool a) = .returned (.bool b) := by rw [h]
theorem ret_int {k : IntKind} {a b : Int} (h : a = b) : Ending.returned (.int k a) = .returned (.int k b) := by rw [h]
theorem byte_lt (c : UInt8) : (c.toNat : Int) < 256 := by have := c.toNat_lt; omega
open Go.Proofs.YtepbbaifpckcpaaGreatDoor
open Go.RowKit
def numFrom (l : List UInt8) (k : Nat) (n : Int) : Option Int := numGo (l.drop k) n
theorem numFrom_step (l : List UInt8) (k : Nat) (n : Int) (h : k < l.length) :
    numFrom l k n = if (9223372036854775807 - ((l[k].toNat : Int) - 48)) / 10 < n then none else numFrom l (k + 1) (10 * n + ((l[k].toNat : Int) - 48)) := by
 unfold numFrom
 rw [List.drop_eq_getElem_cons h, numGo]
theorem numFrom_end (l : List UInt8) (k : Nat) (n : Int) (h : l.length ≤ k) : numFrom l k n = some n := by
 unfold numFrom; rw [List.drop_eq_nil_of_le h]; rfl
theorem numFrom_stepS (s : ByteArray) (k : Nat) (n : Int) (h : k < s.size) :
    numFrom s.data.toList k n = if (9223372036854775807 - ((s[k].toNat : Int) - 48)) / 10 < n then none else numFrom s.data.toList (k + 1) (10 * n + ((s[k].toNat : Int) - 48)) :=
 numFrom_step s.data.toList k n (by simpa using h)
theorem not_empty (s : ByteArray) (h0 : 0 < s.size) : s.data.toList.isEmpty = false := by
 cases hq : s.data.toList with
 | nil => have hl : s.data.toList.length = s.size := by simp
          simp [hq] at hl; omega
 | cons => rfl
theorem is_empty (s : ByteArray) (h0 : s.size = 0) : s.data.toList = [] := by
 cases hq : s.data.toList with
 | nil => rfl
 | cons => have hl : s.data.toList.length = s.size := by simp
           simp [hq] at hl; omega
theorem head_at (s : ByteArray) (h : 0 < s.size) : s.data.toList.head? = some s[0] := by
 have : 0 < s.data.toList.length := by simpa using h
 rw [List.head?_eq_getElem?, List.getElem?_eq_getElem this]; rfl
theorem u8_int (c : UInt8) (n : Nat) (hn : n < 256) : ((c.toNat : Int) = n) ↔ c = n.toUInt8 := by
 constructor
 · intro h
   apply UInt8.toNat_inj.1
   rw [show c.toNat = n by omega, UInt8.toNat_ofNat']
   omega
 · intro h; subst h; rw [UInt8.toNat_ofNat']; omega
theorem number_go (s : ByteArray) (h0 : 0 < s.size) (h : ¬ (1 < s.size ∧ (s[0].toNat : Int) = 48)) :
    number s.data.toList = match numFrom s.data.toList 0 0 with | none => (0, false) | some n => (n, true) := by
 have hl : s.data.toList.length = s.size := by simp
 have he : s.data.toList.isEmpty = false := by cases hq : s.data.toList with | nil => simp [hq] at hl; omega | cons => rfl
 unfold number numFrom
 rw [head_at s h0, hl, if_neg, he]
 · simp only [List.drop_zero]; rfl
 · intro hh
   simp only [Bool.and_eq_true, decide_eq_true_eq, beq_iff_eq, Option.some.injEq] at hh
   exact h ⟨hh.1, (u8_int _ 48 (by omega)).2 hh.2⟩
theorem number_zero (s : ByteArray) (h0 : 1 < s.size) (h : (s[0].toNat : Int) = 48) : number s.data.toList = (0, false) := by
 unfold number
 rw [if_pos]
 simp only [Bool.and_eq_true, decide_eq_true_eq, beq_iff_eq]
 refine ⟨by simpa using h0, ?_⟩
 rw [head_at s (by omega), (u8_int _ 48 (by omega)).1 h]; rfl
theorem ret_ib {k : IntKind} {a b : Int} {c d : Bool} (h : (a, c) = (b, d)) : Ending.returned (.tuple #[.int k a, .bool c]) = .returned (.tuple #[.int k b, .bool d]) := by
 cases h; rfl
set_option maxHeartbeats 400000 in
theorem number_any (s : ByteArray) (w : World) (hs : s.size ≤ maxLen) (hd : ∀ k, (h : k < s.size) → isDig s[k].toNat = true) :
    Calls Tryz.prog 179 #[.string s] w fun e w' => e = .returned (.tuple #[.int .i64 (number s.data.toList).1, .bool (number s.data.toList).2]) ∧ w = w' := by
 unfold maxLen at hs
 have HD := hD hd
 clear hd
 have h0 : 0 < s.size ∨ s.size = 0 := by omega
 rcases h0 with h0 | h0
 · have hcc : (1 < s.size ∧ (s[0].toNat : Int) = 48) ∨ s.size ≤ 1 ∨ (1 < s.size ∧ (s[0].toNat : Int) ≠ 48) := by omega
   rcases hcc with ⟨hcc, hz⟩ | hcc | ⟨hcc, hne⟩
   · have HN := hD (number_zero s hcc hz)
     go_enter Tryz.func179, Tryz.ntmps179
     go_wp2_with fail
     go_ret2
     exact ⟨ret_ib (by rw [HN.out]), rfl⟩
   all_goals
    have HN := hD (number_go s h0 (by omega))
    go_enter Tryz.func179, Tryz.ntmps179
    go_wp2_with fail
    go_loop [4, 17] (fun n k => ∃ (i : Nat) (m : Int), i ≤ s.size ∧ 0 ≤ m ∧ m ≤ 9223372036854775807 ∧ n = .int .i64 m ∧ k = .int .i64 i ∧ numFrom s.data.toList 0 0 = numFrom s.data.toList i m) (fun _ k => s.size - (intOf k).toNat)
    case atStart => exact ⟨0, 0, by omega, by omega, by omega, rfl, rfl, rfl⟩
    case round =>
     obtain ⟨i, m, hi, hm0, hm1, rfl, rfl, hf⟩ := hrel
     have HF := hD hf
     clear hf
     by_cases hlt : i < s.size
     · have hd0 := HD.out i hlt
       simp [isDig] at hd0
       have hst := hD (numFrom_stepS s i m hlt)
       go_wp2_with fail
       · go_ret2
         refine ⟨ret_ib ?_, rfl⟩
         rw [HN.out, HF.out, hst.out, if_pos (by assumption)]
       · go_round
         case rel =>
          refine ⟨i + 1, 10 * m + (s[i].toNat - 48), by omega, by omega, by omega, rfl, by go_num, ?_⟩
          rw [HF.out, hst.out, if_neg (by omega)]
         case measure => simp [intOf]; omega
     · go_wp2_with fail
       go_ret2
       refine ⟨ret_ib ?_, rfl⟩
       rw [HN.out, HF.out, numFrom_end _ _ _ (by simp; omega)]
       simp [Lib.toList_data, not_empty s h0]
 · have he := hD (is_empty s h0)
   go_enter Tryz.func179, Tryz.ntmps179
   go_wp2_with fail
   go_loop [4, 17] (fun n k => n = .int .i64 0 ∧ k = .int .i64 0) (fun _ k => 0)
   case atStart => exact ⟨rfl, rfl⟩
   case round =>
    obtain ⟨rfl, rfl⟩ := hrel
    go_wp2_with fail
    go_ret2
    refine ⟨ret_ib ?_, rfl⟩
    rw [he.out]
    simp [Lib.toList_data, is_empty s h0, number, numGo]
open Go.Proofs.YtepbbaifpckcpaaGreatDoor
open Go.RowKit
theorem drop_at (s : ByteArray) (i : Nat) (h : i < s.size) : s.data.toList.drop i = s[i] :: s.data.toList.drop (i + 1) := by
 have h' : i < s.data.toList.length := by simpa using h
 exact List.drop_eq_getElem_cons h'
theorem byteCells_snoc (l : List UInt8) (c : Int) (h0 : 0 ≤ c) (h1 : c < 256) : Lib.byteCells l ++ [.int .u8 c] = Lib.byteCells (l ++ [c.toNat.toUInt8]) := by
 obtain ⟨n, rfl⟩ := Int.eq_ofNat_of_zero_le h0
 have : n % 256 = n := Nat.mod_eq_of_lt (by omega)
 simp [Lib.byteCells, this]
open Go.Proofs.YtepbbaifpckcpaaGreatDoor
open Go.RowKit
theorem str_cat (a b : List UInt8) : ByteArray.mk a.toArray ++ ByteArray.mk b.toArray = ByteArray.mk (a ++ b).toArray := by
 apply ByteArray.ext
 simp
theorem byte_str (w : World) (a : Addr) (c : Int) (_h0 : 0 ≤ c) (_h1 : c < 256) (h : w.cell? a = some (.int .u8 c)) :
    Sem.run Tryz.prog (convert 75 9 (.slice (some a) 1 1)) w = .ok (.string ⟨#[c.toNat.toUInt8]⟩) w := by
 rw [run_convert_bytes_string w 75 9 5 (some a) 1 1 Tryz.underlying75 Tryz.underlying5 Tryz.underlying9]
 rw [run_bytesToString w a 1 1 [c] (by have := run_loadCells_list (P := Tryz.prog) (w := w) a [Value.int .u8 c] (by intro i v hi; cases i with | zero => (simp at hi; subst hi; simpa [Addr.add] using h) | succ i => simp at hi); simpa using this)]
 rfl
end Go.Proofs.YtepbbaifpckcpaaGreatDoor.Q06
