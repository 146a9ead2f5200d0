/- The contract of lexer.Tokens. -/
import Derived.Test.YtdjpnncehlmehaaDoorG
namespace Go.Proofs.YtdjpnncehlmehaaDoor
open Go.RowKit

/-- the loop's relation -/
def TokRel (s : ByteArray) (w : World) (l : List UInt8) (o : Value) (ln : Int) (acc : List Tok) (wr : World) : Prop :=
  0 ≤ ln ∧ ln + l.length ≤ s.size + 1 ∧ acc.length + l.length ≤ s.size ∧ wr.ownsRow w.heap.size 33 5 o acc.length (toksC acc) ∧ Below w.heap.size w wr ∧ w.heap.size ≤ wr.heap.size ∧ toks s.data.toList 1 [] = toks l ln acc

theorem toksR_ok (s : ByteArray) (hs : s.size ≤ 65536) (ts : List Tok) (h : toks s.data.toList 1 [] = .ok ts) : toksR s.data.toList = (ts, 0, 0) := by
  unfold toksR; rw [if_neg (by simp; omega), h]
theorem toksR_err (s : ByteArray) (hs : s.size ≤ 65536) (n : Int) (h : toks s.data.toList 1 [] = .error n) : toksR s.data.toList = ([], n, 2) := by
  unfold toksR; rw [if_neg (by simp; omega), h]
theorem ret_toks {l : List UInt8} {w w' : World} (A : Option Addr) (c : Nat) (ts : List Tok) (line err : Int) (h : toksR l = (ts, line, err)) (hr : Rd w' 5 A ts.length (toksC ts)) (hb : Below w.heap.size w w') :
    RetToks l w (.returned (.tuple #[.slice A ts.length c, .int .i64 line, .int .i64 err])) w' := by
  refine ⟨A, c, ?_, ?_, hb⟩
  · rw [h]
  · rw [h]; exact hr
def strLen : Value → Nat
  | .string t => t.size
  | _ => 0
theorem len_data (t : ByteArray) : t.data.toList.length = t.size := by simp
/-- a round that goes on -/
theorem tokRel_next {s : ByteArray} {w wr w1 : World} {l l' : List UInt8} {o : Value} {n n' : Int} {acc : List Tok} (h : TokRel s w l o n acc wr) (hb : Below wr.heap.size wr w1) (hn : 0 ≤ n') (hl : n' + l'.length ≤ n + l.length) (hll : l'.length ≤ l.length)
    (hk : toks l n acc = toks l' n' acc) : TokRel s w l' o n' acc w1 := by
  obtain ⟨h1, h2, h3, hown, hb', hge, hf⟩ := h
  exact ⟨hn, by omega, by omega, ownsRow_below hown hb, hb'.trans (hb.mono hge), Nat.le_trans hge hb.size, hf.trans hk⟩

set_option maxRecDepth 100000 in
set_option maxHeartbeats 2000000 in
theorem lexTokens_any (s : ByteArray) (w : World) (hs : s.size ≤ 65536) :
    Calls Tryd.prog 11 #[.string s] w (RetToks s.data.toList w) := by
  obtain ⟨i0, hi, hz0, hz1, hz2⟩ := info_parts info33
  have HI := Lib.hid hi
  have HZ0 := Lib.hid hz0
  have HZ1 := Lib.hid hz1
  have HZ2 := Lib.hid hz2
  clear hi hz0 hz1 hz2
  go_enter Tryd.func11, Tryd.ntmps11
  go_wp2_with fail
  go_loopw [0, 5, 6] (fun s' o ln wr => ∃ (t : ByteArray) (n : Int) (acc : List Tok), s' = .string t ∧ ln = .int .i64 n ∧ TokRel s w t.data.toList o n acc wr) (fun s' _ _ _ => strLen s')
  case atStart => exact ⟨s, 1, [], rfl, rfl, by omega, by simp; omega, by simp, World.ownsRow_nil _ _ _ _, Below.refl _ _, Nat.le_refl _, rfl⟩
  case round =>
    obtain ⟨t, n, acc, rfl, rfl, hrel⟩ := hrel
    have HREL := Lib.hid hrel
    obtain ⟨h1, h2, h3, hown, hb, hge, hf⟩ := hrel
    rw [len_data] at h2 h3
    have HO := Lib.hid hown
    have HB := Lib.hid hb
    have HF := Lib.hid hf
    clear hown hb hf
    by_cases ht0 : t.size = 0
    · have hq : t.toList.isEmpty = true := by rw [Lib.toList_data, is_empty t ht0]; rfl
      have hne : (!t.toList.isEmpty) = false := by rw [hq]; rfl
      have HE := Lib.hid (is_empty t ht0)
      have hF2 : toksR s.data.toList = (acc, 0, 0) := toksR_ok s hs acc (by rw [HF.out, HE.out]; rw [toks])
      have HF2 := Lib.hid hF2
      obtain ⟨A, c, hv⟩ := ownsRow_form HO.out
      subst hv
      clear hF2 ht0
      go_wp2_with fail
      go_ret3
      exact ret_toks A c acc 0 0 HF2.out (Rd.own HO.out) HB.out
    · have hq : t.toList.isEmpty = false := by rw [Lib.toList_data]; exact not_empty t (by omega)
      have ht1 : 0 < t.size := by omega
      cases hsp : isSp t[0].toNat
      · have HSP := Lib.hid hsp
        clear hsp
        cases hcm : Lib.hasPrefix t.data.toList [47, 47]
        · have HPC : Hid (∀ w, Calls Tryd.prog 30 #[.string t, .string ⟨#[47, 47]⟩] w fun e w' => e = .returned (.bool false) ∧ w = w') := Lib.hid (fun w => by
            have := flip_same (Tryd.strings_HasPrefix t ⟨#[47, 47]⟩ w)
            rw [show (ByteArray.mk #[47, 47]).data.toList = [47, 47] from rfl, hcm] at this
            exact this)
          have HTK := Lib.hid (toks_at_tok t ht1 n acc HSP.out hcm)
          clear hcm
          go_wp2_with (first | (go_at_call 27; refine (space_any _ _ (by omega) (byte_lt _)).mono ?_; rw [HSP.out]; rintro e w' ⟨rfl, rfl⟩) | (go_at_call 30; refine (HPC.out _).mono ?_; rintro e w' ⟨rfl, rfl⟩))
          refine (next_any _ _ (by simp [maxLen]; omega) (by omega) ht1).mono ?_
          rintro e w1 ⟨⟨kd, tx, it, st, l0⟩, m, rfl, htk, hm0, hb1⟩
          simp only [tokA]
          obtain ⟨k, rfl⟩ := Int.eq_ofNat_of_zero_le hm0
          have hz1 := hb1.size
          have HB1 := Lib.hid hb1
          rcases HTK.out _ k htk with ⟨hk0, htk1⟩ | ⟨hk1, hk2, htk1⟩
          · have hkz : ((k : Int) == 0) = true := by simp [hk0]
            have HT1 := Lib.hid htk1
            clear htk htk1 hb1 hk0
            go_wp2_with fail
            go_ret3
            refine ret_toks none 0 [] n 2 (toksR_err s hs n (by rw [HF.out, HT1.out])) (Rd.nil _ _ _) ?_
            exact (HB.out.trans (HB1.out.mono hge)).alloc (Nat.le_trans hge hz1) _
          · have hkz : ((k : Int) == 0) = false := by rw [beq_eq_false_iff_ne]; omega
            have HT1 := Lib.hid htk1
            have HO1 := Lib.hid (ownsRow_below HO.out HB1.out)
            clear htk htk1 hb1
            go_wp2_with (at_builtin; refine wpList_append_own _ rfl _ _ 23 rfl w.heap.size 33 i0 _ 5 56 Tryd.underlying23 HI.out HZ0.out HZ1.out HZ2.out rfl (by decide) _ _ _ rfl ((HO1.out.alloc _).alloc _) ⟨w1.heap.size + 1, 0, none⟩ 1 1 [.int .i64 kd, .string ⟨tx.toArray⟩, .int .i64 it, .string ⟨st.toArray⟩, .int .i64 n] rfl rfl ?c1 ?c2 ?c3 ?c4 ?c5 ?_)
            case c2 => simp [Value.oneCell']
            case c3 => simp [maxLen]; omega
            case c4 => omega
            case c5 => first | omega | (simp; omega)
            intro v' w2 hown' hgrow _
            have HO2 := Lib.hid hown'
            have HG2 := Lib.hid hgrow
            clear hown' hgrow
            go_wp2_with fail
            go_roundw
            case rel =>
              refine ⟨t.extract k t.size, n, acc ++ [⟨kd, tx, it, st, n⟩], rfl, rfl, ?_⟩
              rw [tail_of]
              refine ⟨h1, by simp; omega, by simp; omega, ?_, ?_, ?_, ?_⟩
              · rw [toksC_snoc, List.length_append]; exact HO2.out
              · exact below_grown (((HB.out.trans (HB1.out.mono hge)).alloc (Nat.le_trans hge hz1) _).alloc (by simp; omega) _) (by simp; omega) HG2.out (fun g hg => (HO1.out.lt g hg).1)
              · have := HG2.out.size; simp at this; omega
              · rw [HF.out, HT1.out]
            case measure => simp [strLen]; omega
        · have HCM := Lib.hid hcm
          have HPC : Hid (∀ w, Calls Tryd.prog 30 #[.string t, .string ⟨#[47, 47]⟩] w fun e w' => e = .returned (.bool true) ∧ w = w') := Lib.hid (fun w => by
            have := flip_same (Tryd.strings_HasPrefix t ⟨#[47, 47]⟩ w)
            rw [show (ByteArray.mk #[47, 47]).data.toList = [47, 47] from rfl, hcm] at this
            exact this)
          have HTK := Lib.hid (toks_at_comment t ht1 n acc hcm)
          clear hcm
          rcases idx_nl t.data.toList with ⟨hx, hx'⟩ | ⟨k, hx, hk, hx'⟩
          · have HXC : Hid (∀ w, Calls Tryd.prog 31 #[.string t, .int .u8 10] w fun e w' => e = .returned (.int .i64 (-1)) ∧ w = w') := Lib.hid (fun w => by
              have := flip_same (Tryd.strings_IndexByte t 10 w)
              rw [show (10 : Int).toNat.toUInt8 = 10 from rfl, hx] at this
              exact this)
            have HX := Lib.hid hx'
            clear hx hx'
            go_wp2_with (first | (go_at_call 27; refine (space_any _ _ (by omega) (byte_lt _)).mono ?_; rw [HSP.out]; rintro e w' ⟨rfl, rfl⟩) | (go_at_call 30; refine (HPC.out _).mono ?_; rintro e w' ⟨rfl, rfl⟩) | (go_at_call 31; refine (HXC.out _).mono ?_; rintro e w' ⟨rfl, rfl⟩))
            go_roundw
            case rel =>
              exact ⟨ByteArray.empty, n, acc, rfl, rfl, tokRel_next HREL.out (Below.refl _ _) h1 (by simp; omega) (by simp) (by rw [HTK.out, HX.out]; rfl)⟩
            case measure => simp [strLen]; omega
          · have HXC : Hid (∀ w, Calls Tryd.prog 31 #[.string t, .int .u8 10] w fun e w' => e = .returned (.int .i64 k) ∧ w = w') := Lib.hid (fun w => by
              have := flip_same (Tryd.strings_IndexByte t 10 w)
              rw [show (10 : Int).toNat.toUInt8 = 10 from rfl, hx] at this
              exact this)
            have HX := Lib.hid hx'
            have hk0 : 0 < k := by
              rcases Nat.eq_zero_or_pos k with rfl | h
              · exfalso
                have h5 := prefix_cc t ht1
                rw [HCM.out] at h5
                simp only [Bool.true_eq, Bool.and_eq_true, beq_iff_eq] at h5
                rw [cons1 t ht1, h5.1] at hx
                have : Lib.indexByte (47 :: List.drop 1 t.data.toList) 10 ≠ 0 := by
                  simp only [Lib.indexByte]
                  have := Lib.indexByte_ge (List.drop 1 t.data.toList) 10
                  rw [if_neg (by decide)]
                  split
                  · decide
                  · rename_i h6; intro h7; apply h6; rw [beq_iff_eq]; omega
                exact this hx
              · exact h
            rw [len_data] at hk
            clear hx hx'
            go_wp2_with (first | (go_at_call 27; refine (space_any _ _ (by omega) (byte_lt _)).mono ?_; rw [HSP.out]; rintro e w' ⟨rfl, rfl⟩) | (go_at_call 30; refine (HPC.out _).mono ?_; rintro e w' ⟨rfl, rfl⟩) | (go_at_call 31; refine (HXC.out _).mono ?_; rintro e w' ⟨rfl, rfl⟩))
            go_roundw
            case rel =>
              refine ⟨t.extract k t.size, n, acc, rfl, rfl, ?_⟩
              rw [tail_of]
              exact tokRel_next HREL.out (Below.refl _ _) h1 (by simp) (by simp) (by rw [HTK.out, HX.out])
            case measure => simp [strLen]; omega
      · have HSP := Lib.hid hsp
        have HPX : Hid (∀ w, Calls Tryd.prog 28 #[.string t, .func (.func 27) #[] #[]] w fun e w' => e = .returned (.int .i64 (run isSp t.data.toList)) ∧ w = w') := Lib.hid (fun w => prefix_any t 27 isSp (fun n w h0 h1 => space_any n w h0 h1) plain27 w (by simp [maxLen]; omega))
        have HCT : Hid (∀ w, Calls Tryd.prog 29 #[.string (t.extract 0 (run isSp t.data.toList)), .string ⟨#[10]⟩] w fun e w' => e = .returned (.int .i64 (countNl (t.data.toList.take (run isSp t.data.toList)))) ∧ w = w') := Lib.hid (fun w => by
          have := flip_same (Tryd.strings_Count_one (t.extract 0 (run isSp t.data.toList)) 10 w)
          rw [show (t.extract 0 (run isSp t.data.toList)).data.toList = t.data.toList.take (run isSp t.data.toList) from by rw [ext0], count_nl] at this
          exact this)
        have HTK := Lib.hid (toks_at_space t n acc)
        have hr1 := run_le isSp t.data.toList
        have hr2 := run_pos isSp t ht1 hsp
        have hc1 := countNl_le (t.data.toList.take (run isSp t.data.toList))
        rw [List.length_take, len_data] at hc1
        rw [len_data] at hr1
        clear hsp
        generalize countNl (t.data.toList.take (run isSp t.data.toList)) = m at *
        generalize run isSp t.data.toList = k at *
        have hmk : m ≤ k := by omega
        clear hc1
        go_wp2_with (first | (go_at_call 27; refine (space_any _ _ (by omega) (byte_lt _)).mono ?_; rw [HSP.out]; rintro e w' ⟨rfl, rfl⟩) | (go_at_call 28; refine (HPX.out _).mono ?_; rintro e w' ⟨rfl, rfl⟩) | (go_at_call 29; refine (HCT.out _).mono ?_; rintro e w' ⟨rfl, rfl⟩))
        go_roundw
        case rel =>
          refine ⟨t.extract k t.size, n + m, acc, rfl, rfl, ?_⟩
          rw [tail_of]
          exact tokRel_next HREL.out (Below.refl _ _) (by omega) (by simp; omega) (by simp) (by rw [HTK.out])
        case measure => simp [strLen]; omega
end Go.Proofs.YtdjpnncehlmehaaDoor
