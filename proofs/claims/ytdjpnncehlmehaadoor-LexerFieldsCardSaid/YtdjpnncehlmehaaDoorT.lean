/- The contracts of Fields, and the law on fields. -/
import Derived.Test.YtdjpnncehlmehaaDoorS
import Derived.Test.YtdjpnncehlmehaaDoorR
import Derived.Test.YtdjpnncehlmehaaDoorShelf2
namespace Go.Proofs.YtdjpnncehlmehaaDoor
open Go.RowKit

set_option maxRecDepth 100000 in
set_option maxHeartbeats 2000000 in
theorem sep_any (n : Nat) (w : World) (h : n ≤ 1114111) :
    Calls Tryd.prog 46 #[.int .i32 n] w fun e w' => e = .returned (.bool (pSp n)) ∧ Below w.heap.size w w' := by
  by_cases hl : n < 128
  · have HC := Lib.hid (fun w => space_any (n : Int) w (by omega) (by omega))
    have HP : Hid (pSp n = isSp n) := Lib.hid (by simp [pSp, hl])
    have hm : (n : Int) % 256 = n := by omega
    go_enter Tryd.func46, Tryd.ntmps46
    go_wp2_with fail
    refine (HC.out _).mono ?_
    rintro e w1 ⟨rfl, rfl⟩
    go_wp2_with fail
    go_ret
    exact ⟨ret_bool (by rw [HP.out]), Below.refl _ _⟩
  · have HP : Hid (pSp n = false) := Lib.hid (by simp [pSp, hl])
    go_enter Tryd.func46, Tryd.ntmps46
    go_wp2_with fail
    go_ret
    exact ⟨ret_bool (by rw [HP.out]), Below.refl _ _⟩
theorem plain46 : Plain 46 := fun _ _ => by kernel_rfl
set_option maxRecDepth 100000 in
set_option maxHeartbeats 2000000 in
theorem lexFields_any (s : ByteArray) (w : World) (hs : s.size ≤ 1000000) :
    Calls Tryd.prog 23 #[.string s] w (RetStrs (fields s.data.toList) w) := by
  have hC : ∀ w, Calls Tryd.prog 45 #[.string s, .func (.func 46) #[] #[]] w (RetStrs (fields s.data.toList) w) := fun w => by
    have h := Tryd.strings_FieldsFunc_grows 46 #[] plain46 pSp s w (by omega) (fun W x hx _ => sep_any x W hx)
    refine h.mono ?_
    rintro e w' ⟨A, rfl, _, ho, hb⟩
    have hl : (Lib.goFieldsP pSp s).length = (fields s.data.toList).length := by
      have := congrArg List.length (goFields_fields s)
      simpa [strC] using this
    rw [goFields_fields] at ho
    exact ret_strs _ _ (fields s.data.toList) rfl hl (by rw [hl] at ho ⊢; exact Rd.own ho) hb
  have HC := Lib.hid hC
  clear hC
  go_enter Tryd.func23, Tryd.ntmps23
  go_wp2_with fail
  refine (HC.out _).mono ?_
  rintro e w1 ⟨A, c, rfl, r, b⟩
  go_wp2_with fail
  go_ret
  exact ⟨A, c, rfl, r, b⟩

theorem mid_snoc (s : ByteArray) (m k : Nat) (hmk : m ≤ k) (hk : k < s.size) : (s.data.toList.drop m).take (k + 1 - m) = (s.data.toList.drop m).take (k - m) ++ [s[k]] := by
  rw [show k + 1 - m = (k - m) + 1 from by omega, List.take_succ_eq_append_getElem (by simp; omega)]
  congr 1
  rw [List.getElem_drop]
  have e2 : m + (k - m) = k := by omega
  simp only [e2]
  rfl
set_option maxRecDepth 100000 in
set_option maxHeartbeats 2000000 in
theorem refFields_any (s : ByteArray) (w : World) (hs : s.size ≤ 1000000) :
    Calls Tryd.prog 24 #[.string s] w (RetStrs (fields s.data.toList) w) := by
  obtain ⟨i0, hi, hz0, hz1, hz2⟩ := info_parts info9
  have HI := Lib.hid hi
  have HZ0 := Lib.hid hz0
  have HZ1 := Lib.hid hz1
  have HZ2 := Lib.hid hz2
  clear hi hz0 hz1 hz2
  go_enter Tryd.func24, Tryd.ntmps24
  go_wp2_with fail
  go_loopw [3, 4, 5] (fun o bg i wr => ∃ (k m : Nat) (acc : List (List UInt8)), i = .int .i64 k ∧ bg = .int .i64 m ∧ m ≤ k ∧ k ≤ s.size + 1 ∧ acc.length ≤ m ∧ (k = s.size + 1 → m = k) ∧ wr.ownsRow w.heap.size 9 1 o acc.length (strC acc) ∧ Below w.heap.size w wr ∧ w.heap.size ≤ wr.heap.size ∧
    fields s.data.toList = (if k ≤ s.size then flds (s.data.toList.drop k) ((s.data.toList.drop m).take (k - m)) acc else acc)) (fun _ _ i _ => s.size + 1 - (intOf i).toNat)
  case atStart => exact ⟨0, 0, [], rfl, rfl, by omega, by omega, by simp, by omega, World.ownsRow_nil _ _ _ _, Below.refl _ _, Nat.le_refl _, by simp [fields]⟩
  case round =>
    obtain ⟨k, m, acc, rfl, rfl, hmk, hk, hacc, hend, hown, hb, hge, hf⟩ := hrel
    have HO := Lib.hid hown
    have HB := Lib.hid hb
    have HF := Lib.hid hf
    have HEnd := Lib.hid hend
    clear hown hb hf hend
    by_cases hlt : k ≤ s.size
    · have HF1 : Hid (fields s.data.toList = flds (s.data.toList.drop k) ((s.data.toList.drop m).take (k - m)) acc) := Lib.hid (by rw [HF.out, if_pos hlt])
      have hcase : (∃ h : k < s.size, isSp s[k].toNat = false) ∨ ((∃ h : k < s.size, isSp s[k].toNat = true) ∨ k = s.size) := by
        by_cases h : k < s.size
        · cases hs : isSp s[k].toNat
          · exact .inl ⟨h, hs⟩
          · exact .inr (.inl ⟨h, hs⟩)
        · exact .inr (.inr (by omega))
      rcases hcase with ⟨h, hsp⟩ | hsp
      · have HW := Lib.hid hsp
        have x1 : ((k : Int) == (s.size : Int)) = false := by rw [beq_eq_false_iff_ne]; omega
        have HF2 : Hid (fields s.data.toList = flds (s.data.toList.drop (k + 1)) ((s.data.toList.drop m).take (k + 1 - m)) acc) := Lib.hid (by
          rw [HF1.out, drop_at s k h, flds, hsp, if_neg (by simp), mid_snoc s m k hmk h])
        clear hsp
        go_wp2_with (go_at_call 33; refine (white_any _ _).mono ?_; rw [HW.out]; rintro e w' ⟨rfl, rfl⟩)
        go_roundw
        case rel =>
          exact ⟨k + 1, m, acc, by go_num, rfl, by omega, by omega, hacc, by omega, HO.out, HB.out, hge, by rw [if_pos (by omega), HF2.out]⟩
        case measure => simp [intOf]; omega
      · have HF2 : Hid (fields s.data.toList = (if k + 1 ≤ s.size then flds (s.data.toList.drop (k + 1)) [] (addF ((s.data.toList.drop m).take (k - m)) acc) else addF ((s.data.toList.drop m).take (k - m)) acc)) := Lib.hid (by
          rcases hsp with ⟨h, hsp⟩ | rfl
          · rw [HF1.out, drop_at s k h, flds, hsp, if_pos rfl, if_pos (by omega)]
          · rw [HF1.out, List.drop_eq_nil_of_le (by simp), flds, if_neg (by omega)])
        have hone : (∃ h : k < s.size, ((k : Int) == (s.size : Int)) = false ∧ isSp s[k].toNat = true) ∨ ((k : Int) == (s.size : Int)) = true := by
          rcases hsp with ⟨h, hsp⟩ | rfl
          · exact .inl ⟨h, by rw [beq_eq_false_iff_ne]; omega, hsp⟩
          · exact .inr (by simp)
        clear hsp
        have hfin : ∀ (wr' : World) (o' : Value) (acc' : List (List UInt8)), acc' = addF ((s.data.toList.drop m).take (k - m)) acc → acc'.length ≤ k + 1 → wr'.ownsRow w.heap.size 9 1 o' acc'.length (strC acc') → Below w.heap.size w wr' → w.heap.size ≤ wr'.heap.size →
            ∃ (k_1 m_1 : Nat) (acc_1 : List (List UInt8)), Value.int IntKind.i64 ((k : Int) + 1) = .int .i64 k_1 ∧ Value.int IntKind.i64 ((k : Int) + 1) = .int .i64 m_1 ∧ m_1 ≤ k_1 ∧ k_1 ≤ s.size + 1 ∧ acc_1.length ≤ m_1 ∧ (k_1 = s.size + 1 → m_1 = k_1) ∧ wr'.ownsRow w.heap.size 9 1 o' acc_1.length (strC acc_1) ∧ Below w.heap.size w wr' ∧ w.heap.size ≤ wr'.heap.size ∧
            fields s.data.toList = (if k_1 ≤ s.size then flds (s.data.toList.drop k_1) ((s.data.toList.drop m_1).take (k_1 - m_1)) acc_1 else acc_1) := by
          intro wr' o' acc' e1 e2 e3 e4 e5
          refine ⟨k + 1, k + 1, acc', by go_num, by go_num, Nat.le_refl _, by omega, e2, fun _ => rfl, e3, e4, e5, ?_⟩
          rw [HF2.out, ← e1, Nat.sub_self, List.take_zero]
        have HFin := Lib.hid hfin
        clear hfin
        by_cases hm : m < k
        · have HA : Hid (acc ++ [(s.data.toList.drop m).take (k - m)] = addF ((s.data.toList.drop m).take (k - m)) acc) := Lib.hid (by
            unfold addF; rw [if_neg]
            intro e; have := congrArg List.length e; simp at this; omega)
          have HE := Lib.hid (ext_mid s m k)
          rcases hone with ⟨h, x1, hsp⟩ | x1
          all_goals
            go_wp2_with (first | (go_at_call 33; refine (white_any _ _).mono ?_; rw [hsp]; rintro e w' ⟨rfl, rfl⟩) | (at_builtin; refine wpList_append_own _ rfl _ _ 34 rfl w.heap.size 9 i0 _ 1 16 Tryd.underlying34 HI.out HZ0.out HZ1.out HZ2.out rfl (by decide) _ _ _ rfl (HO.out.alloc _) ⟨wr.heap.size, 0, none⟩ 1 1 [.string (s.extract m k)] rfl rfl (cell_new _ _ _ _ rfl) (by simp [Value.oneCell']) (by simp [maxLen]; omega) (by omega) (by simp; omega) ?_))
            intro v' w2 hown' hgrow _
            have HO2 := Lib.hid hown'
            have HG2 := Lib.hid hgrow
            clear hown' hgrow
            go_wp2_with fail
            go_roundw
            case rel =>
              refine HFin.out _ _ _ HA.out (by simp; omega) ?_ ?_ ?_
              · rw [strC_snoc, List.length_append, ← HE.out]; exact HO2.out
              · exact below_grown (HB.out.alloc hge _) (by simp; omega) HG2.out (fun g hg => (HO.out.lt g hg).1)
              · have := HG2.out.size; simp at this; omega
            case measure => simp [intOf]; omega
        · have HA : Hid (acc = addF ((s.data.toList.drop m).take (k - m)) acc) := Lib.hid (by
            unfold addF; rw [if_pos]
            rw [show k - m = 0 from by omega, List.take_zero])
          rcases hone with ⟨h, x1, hsp⟩ | x1
          all_goals
            go_wp2_with (go_at_call 33; refine (white_any _ _).mono ?_; rw [hsp]; rintro e w' ⟨rfl, rfl⟩)
            go_roundw
            case rel => exact HFin.out _ _ _ HA.out (by omega) HO.out HB.out hge
            case measure => simp [intOf]; omega
    · have HL : Hid (fields s.data.toList = acc) := Lib.hid (by rw [HF.out, if_neg hlt])
      obtain ⟨A, c, hv⟩ := ownsRow_form HO.out
      subst hv
      go_wp2_with fail
      go_ret
      exact ret_strs _ _ acc HL.out rfl (Rd.own HO.out) HB.out
end Go.Proofs.YtdjpnncehlmehaaDoor
