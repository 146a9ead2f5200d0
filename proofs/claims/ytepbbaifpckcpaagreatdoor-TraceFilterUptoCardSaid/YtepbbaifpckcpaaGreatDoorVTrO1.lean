/- The contract of trace.Format. -/
import Derived.Lib.ItoaLen
import Derived.Test.YtepbbaifpckcpaaGreatDoorVPl
import Derived.Test.YtepbbaifpckcpaaGreatDoorVTrL
import Derived.Test.YtepbbaifpckcpaaGreatDoorVTrM1
namespace Go.Proofs.YtepbbaifpckcpaaGreatDoor
open Go.RowKit
theorem bst_below {w0 w w' : World} {l : List UInt8} (h : BSt w0 l w) (hb : Below w.heap.size w w') : BSt w0 l w' := by
 have go : ∀ p, Lib.BuilderAt 77 5 w0.heap.size w0.heap.size p (Lib.byteCells l) w → Lib.BuilderAt 77 5 w0.heap.size w0.heap.size p (Lib.byteCells l) w' := fun p hp => by
  have hlt := hp.lt
  obtain ⟨h1, v, h2, h3, h4⟩ := hp
  exact ⟨h1, v, (hb.block _ hlt).trans h2, ownsRow_below h3 hb, h4⟩
 refine ⟨?_, bon h.2.1 hb, Nat.le_trans h.2.2 hb.size⟩
 rcases h.1 with h1 | h1
 · exact .inl (go _ h1)
 · exact .inr (go _ h1)
theorem line_len {x : Pt} {w : World} (hok : x.ok w) (ht : x.text.length ≤ 300000) (hr : x.result.length ≤ 300000) (hm : (enc0 x.msg).length ≤ 1000000) : (Lib.join (headParts x ++ kindParts x) [32]).length ≤ 100000000 := by
 obtain ⟨⟨i_t, i_k, i_w, i_s, i_n⟩, -⟩ := hok
 have a1 := Lib.itoa_length_le x.time i_t.1 i_t.2
 have a2 := Lib.itoa_length_le x.who i_w.1 i_w.2
 have a3 := Lib.itoa_length_le x.slot i_s.1 i_s.2
 have a4 := Lib.itoa_length_le x.number i_n.1 i_n.2
 have b1 := quote_len x.text
 have b2 := quote_len x.result
 have b3 := quote_len (enc0 x.msg)
 have c1 : (wordK x.kind).length ≤ 7 := by
  unfold wordK
  repeat' split
  all_goals decide
 show (Lib.join (Lib.itoa x.time :: ([wordK x.kind, Lib.itoa x.who] ++ kindParts x)) [32]).length ≤ _
 rw [Lib.join_length]
 unfold kindParts
 repeat' split
 all_goals
  simp only [Lib.lens, List.map_cons, List.map_nil, List.cons_append, List.nil_append, List.sum_cons, List.sum_nil, List.length_cons, List.length_nil]
  omega
def fewLn (l : List Pt) : Prop := ∀ x ∈ l, x.msg.sz ≤ 16777216 ∧ x.text.length ≤ 300000 ∧ x.result.length ≤ 300000 ∧ (enc0 x.msg).length ≤ 1000000
theorem fewLn.pts {l : List Pt} (h : fewLn l) : fewPts l := fun x hx => ⟨(h x hx).1, (h x hx).2.1⟩
def linesOf (l : List Pt) : List UInt8 := l.flatMap lineOf
theorem linesOf_take (l : List Pt) (k : Nat) (hk : k < l.length) : linesOf (l.take (k + 1)) = linesOf (l.take k) ++ lineOf l[k] := by
 unfold linesOf
 rw [List.take_succ_eq_append_getElem hk, List.flatMap_append]
 simp
theorem linesOf_le (l : List Pt) (k : Nat) : (linesOf (l.take k)).length ≤ (linesOf l).length := by
 unfold linesOf
 conv => rhs; rw [← List.take_append_drop k l, List.flatMap_append, List.length_append]
 omega
def fmtT (E : List UInt8 → Bool) (l : List Pt) : List UInt8 := if vTr E l = 0 ∧ (linesOf l).length ≤ 65536 then linesOf l else []
def fmtE (E : List UInt8 → Bool) (l : List Pt) : Int := if vTr E l = 0 then (if (linesOf l).length ≤ 65536 then 0 else 3) else vTr E l
set_option maxRecDepth 100000 in
set_option maxHeartbeats 4000000 in
theorem trFormat_any (A : Option Addr) (c : Nat) (l : List Pt) (w : World) (hone : ∀ x ∈ l, x.kind = 1) (E : List UInt8 → Bool) (hE : EntOk 60 E l w) (he : Env w) (hp : PtsIn w A l) (hf : fewLn l) (hn : l.length ≤ 1099511627776) :
    Calls Tryz.prog 31 #[.slice A l.length c] w (RetStrErr (fmtT E l) (fmtE E l) w) := by
 have HP := hD hp
 have HEnv := hD he
 have HFew := hD hf
 have HVal := hD (trValid_any A c l w E hE he hp hf.pts hn)
 clear hp hE he hf
 obtain ⟨vt, hvt⟩ : ∃ vt, vt = vTr E l := ⟨_, rfl⟩
 rw [← hvt] at HVal
 have HVt := hD hvt
 clear hvt
 go_enter Tryz.func31, Tryz.ntmps31
 go_wp2_with fail
 refine HVal.out.mono ?_
 rintro e w1 ⟨rfl, b1⟩
 have HB1 := hD b1
 clear b1
 by_cases h0 : vt = 0
 case neg =>
  have q0 : (vt == 0) = false := by simpa using h0
  have q1 : (vt != 0) = true := by simpa using h0
  have HT : Hid (fmtT E l = [] ∧ fmtE E l = vt) := hD ⟨by unfold fmtT; rw [if_neg (fun h => h0 (HVt.out.trans h.1))], by unfold fmtE; rw [← HVt.out, if_neg h0]⟩
  clear h0
  go_wp2_with fail
  go_ret2
  exact ret_se HT.out.1 HT.out.2 HB1.out
 have HV0 : Hid (vTr E l = 0) := hD (HVt.out.symm.trans h0)
 subst h0
 have HS0 := hD (bst_new w1)
 go_upto_region 6 with fail
 generalize w1.alloc (.cells #[.pointer none, .slice none 0 0] 77) = w2 at HS0 ⊢
 have HB1s := hD HB1.out.size
 have HPtr : Hid (w1.heap.size = w1.heap.size) := hD rfl
 go_loopw [15] (fun i wr => ∃ k : Nat, i = .int .i64 k ∧ k ≤ l.length ∧ (linesOf (l.take k)).length ≤ 65536 ∧ BSt w1 (linesOf (l.take k)) wr) (fun i _ => l.length - (intOf i).toNat)
 case atStart => exact ⟨0, rfl, by omega, by simp [linesOf], HS0.out⟩
 case round =>
  obtain ⟨k, rfl, hk, hA, hst⟩ := hrel
  have HA := hD hA
  have HSt := hD hst
  clear hA hst
  by_cases hlt : k < l.length
  · have i0' : (0 : Int) ≤ (k : Int) := by omega
    have i1 : (k : Int) < (l.length : Int) := by omega
    obtain ⟨b, off, hA, hg, hcc⟩ := HP.out.at hlt
    subst hA
    obtain ⟨x, hx⟩ : ∃ x, x = l[k] := ⟨_, rfl⟩
    have HBw : Hid (Below w.heap.size w wr) := hD (bon HB1.out HSt.out.2.1)
    have HRg := hD (hcc wr HBw.out)
    rw [← hx] at HRg
    have HXe := hD hx
    have HLn : Hid (∀ W, Below w.heap.size w W → Calls Tryz.prog 48 #[.agg (ptC x).toArray] W (RetStr (lineOf x) W)) := hD (fun W hW => by
     have hm : x ∈ l := hx ▸ List.getElem_mem hlt
     obtain ⟨f1, f2, f3, f4⟩ := HFew.out x hm
     have hok := Pt.below (HP.out.2 x hm) hW
     exact trLine1_any x (hone x hm) W (HEnv.out.below hW) hok f1 f2 f3 f4 (line_len hok f2 f3 f4))
    have hll : (lineOf x).length ≤ 100000001 := by
     have hm : x ∈ l := hx ▸ List.getElem_mem hlt
     obtain ⟨f1, f2, f3, f4⟩ := HFew.out x hm
     have := line_len (HP.out.2 x hm) f2 f3 f4
     simp only [lineOf, List.length_append, List.length_cons, List.length_nil]
     omega
    clear hcc hx
    have HX0 := hD (Vr.new wr (ptC pt0) 40)
    have HX := hD (HX0.out.sets (ptC x) rfl)
    have HBr := hD (below_gr (below_new wr (.cells (ptC pt0).toArray 40)) (grown_vs (b := wr.heap.size) (ptC x)) (Nat.le_refl _))
    go_upto_region 8 with (first
     | (refine wpList_load_mid rfl 40 _ rfl b (off + k * 28) rfl (ptC x) _ HRg.out Tryz.underlying40 rfl (infoPt x) ?_)
     | (refine wpList_store_mid rfl 40 _ _ rfl wr.heap.size 0 (ptC x).toArray rfl rfl ?_ (infoPt x) (ptC_one x) ?_; · exact HX0.out.there rfl))
    try simp only [List.toList_toArray]
    clear HX0 HRg
    change Code.wp _ _ _ _ ((wr.alloc (.cells (ptC pt0).toArray 40)).setCells wr.heap.size 0 (ptC x))
    generalize (wr.alloc (.cells (ptC pt0).toArray 40)).setCells wr.heap.size 0 (ptC x) = w3 at HX HBr ⊢
    generalize wr.heap.size = b3 at HX ⊢
    go_wp2_with (refine wpList_load_mid rfl 40 _ rfl b3 0 rfl (ptC x) _ HX.out.range Tryz.underlying40 rfl (infoPt x) ?_)
    refine (HLn.out _ (bon HBw.out HBr.out)).mono ?_
    rintro e w4 ⟨rfl, hs⟩
    have HSt4 := hD (bst_below HSt.out (bon HBr.out hs))
    clear hs
    go_wp2_with fail
    refine (bst_str HSt4.out ⟨(lineOf x).toArray⟩ (by have := HA.out; simp [ByteArray.size]; omega)).mono ?_
    rintro e w5 ⟨rfl, hs⟩
    have HSt5 : Hid (BSt w1 (linesOf (l.take (k + 1))) w5) := hD (by rw [linesOf_take l k hlt, ← HXe.out]; exact hs)
    clear hs
    go_wp2_with fail
    refine (Tryz.Builder_Len _ _ _ _ HSt5.out.1).mono ?_
    rintro e w6 ⟨rfl, hw6⟩
    subst hw6
    rw [show (Lib.byteCells (linesOf (l.take (k + 1)))).length = (linesOf (l.take (k + 1))).length from by simp [Lib.byteCells]]
    have HLe := hD (linesOf_le l (k + 1))
    by_cases hbig : (linesOf (l.take (k + 1))).length ≤ 65536
    · have t1 : ¬ ((65536 : Int) < ((linesOf (l.take (k + 1))).length : Int)) := by omega
      have HN := hD hbig
      clear hbig
      go_wp2_with fail
      go_roundw
      case rel => exact ⟨k + 1, by go_num, by omega, HN.out, HSt5.out⟩
      case measure => simp [intOf]; omega
    · have t1 : (65536 : Int) < ((linesOf (l.take (k + 1))).length : Int) := by omega
      have HT : Hid (fmtT E l = [] ∧ fmtE E l = 3) := hD (by
       have := HLe.out
       exact ⟨by unfold fmtT; rw [if_neg (fun h => by omega)], by unfold fmtE; rw [if_pos HV0.out, if_neg (by omega)]⟩)
      have HBe := hD (bon HB1.out HSt5.out.2.1)
      clear hbig
      go_wp2_with fail
      go_ret2
      exact ret_se HT.out.1 HT.out.2 HBe.out
  · obtain rfl : k = l.length := by omega
    have HSt' : Hid (BSt w1 (linesOf l) wr) := hD (by have h := HSt.out; rwa [List.take_length] at h)
    have HT : Hid (fmtT E l = linesOf l ∧ fmtE E l = 0) := hD (by
     have h := HA.out
     rw [List.take_length] at h
     exact ⟨by unfold fmtT; rw [if_pos ⟨HV0.out, h⟩], by unfold fmtE; rw [if_pos HV0.out, if_pos h]⟩)
    clear HSt
    go_wp2_with fail
    refine (bst_get HSt'.out).mono ?_
    rintro e w7 ⟨rfl, hs⟩
    have HBe := hD (bon HB1.out hs)
    clear hs
    go_wp2_with fail
    go_ret2
    exact ret_se HT.out.1 HT.out.2 HBe.out
end Go.Proofs.YtepbbaifpckcpaaGreatDoor
