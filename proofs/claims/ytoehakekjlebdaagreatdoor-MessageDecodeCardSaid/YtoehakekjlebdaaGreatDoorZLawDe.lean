/- The law MessageDecode. -/
import Derived.Test.YtoehakekjlebdaaGreatDoorZLawEn
import Derived.Test.YtoehakekjlebdaaGreatDoorZLawSt
import Derived.Test.YtoehakekjlebdaaGreatDoorZGd
namespace Go.Proofs.YtoehakekjlebdaaGreatDoor
open Go.RowKit

theorem ms0_ok (w : World) : ms0.ok w :=
  ⟨⟨i640, i640, i640, i640, i640, i640⟩, ⟨i640, i640, i640, i640⟩, ⟨Rd.nil _ _ _, by simp [ms0, Sl.nil]⟩, ⟨Rd.nil _ _ _, by simp [ms0, Sl.nil]⟩, ⟨i640, Rd.nil _ _ _, ⟨Rd.nil _ _ _, by simp [ms0, Sl.nil]⟩, Rd.nil _ _ _, by simp [ms0, Sl.nil]⟩, Rd.nil _ _ _⟩
theorem decMs_sz {s : List UInt8} {m : Ms} (h : decMs s = some m) : m.sz ≤ 300000 := by
  cases hw : whole rdMs s with
  | none => rw [decMs_none hw] at h; cases h
  | some y =>
    rw [decMs_some hw] at h
    by_cases hv : vMs y = 0
    · rw [if_pos hv] at h
      obtain rfl := Option.some.inj h
      exact (ms_short hv).1
    · rw [if_neg hv] at h; cases h
set_option maxRecDepth 100000 in
set_option maxHeartbeats 2000000 in
theorem lawDecode (s : ByteArray) (w : World) (he : Env w) : Calls Tryz.prog 6 #[.string s] w (RetBool true w) := by
  have HA : Hid (∀ w1, Below w.heap.size w w1 → Calls Tryz.prog 7 #[] w1 (RetBool true w1)) := Lib.hid (fun w1 hb => awake_any w1 (he.below hb))
  have HB0 := Lib.hid (Below.refl w.heap.size w)
  clear he
  by_cases hlen : s.size ≤ 4000
  · have hl1 : ¬ (4000 : Int) < (s.size : Int) := by omega
    obtain ⟨l, hl⟩ : ∃ l, l = s.data.toList := ⟨_, rfl⟩
    have hs : s = ⟨l.toArray⟩ := by rw [hl, str_mk]
    subst hs
    have hll : l.length ≤ 4000 := by rwa [size_mk] at hlen
    have HDp : Hid (∀ W, Calls Tryz.prog 16 #[.string ⟨l.toArray⟩] W (RetDecM (decMs l) W)) := Lib.hid (fun W => decode_any l W (Nat.le_trans hll (by decide)))
    have HDr : Hid (∀ W, Calls Tryz.prog 18 #[.string ⟨l.toArray⟩] W (RetDecM (decMs l) W)) := Lib.hid (fun W => refDecode_any l W (Nat.le_trans hll (by decide)))
    clear hl hlen
    go_enter Tryz.func6, Tryz.ntmps6
    go_wp2_with fail
    refine (HA.out _ HB0.out).mono ?_
    rintro e w1 ⟨rfl, b1⟩
    have HB1 := Lib.hid (bon HB0.out b1)
    clear b1
    cases hd : decMs l with
    | none =>
      have HD := Lib.hid hd
      clear hd
      go_wp2_with fail
      refine (decM_none (HDp.out w1) HD.out).mono ?_
      rintro e w2 ⟨rfl, b2⟩
      have hz2 : w.heap.size ≤ w2.heap.size := (bon HB1.out b2).size
      have HT2 := Lib.hid (Vr.new w2 (msC ms0) 36)
      have HB2 := Lib.hid (below_gr (bon (bon HB1.out b2) (below_new w2 (.cells (msC ms0).toArray 36))) (grown_vs (b := w2.heap.size) (msC ms0)) hz2)
      have HX2 := Lib.hid (HT2.out.sets (msC ms0) rfl)
      clear b2
      go_upto_region 4 with (refine wpList_store_mid rfl 36 _ _ rfl w2.heap.size 0 (msC ms0).toArray rfl rfl ?_ (infoMsn ms0) (msC_one' ms0) ?_; · exact HT2.out.there rfl)
      try simp only [List.toList_toArray]
      clear HT2
      change Code.wp _ _ _ _ ((w2.alloc (.cells (msC ms0).toArray 36)).setCells w2.heap.size 0 (msC ms0))
      generalize (w2.alloc (.cells (msC ms0).toArray 36)).setCells w2.heap.size 0 (msC ms0) = w3 at HB2 HX2 ⊢
      go_wp2_with fail
      refine (decM_none (HDr.out w3) HD.out).mono ?_
      rintro e w4 ⟨rfl, b4⟩
      have hz4 : w.heap.size ≤ w4.heap.size := (bon HB2.out b4).size
      have HT4 := Lib.hid (Vr.new w4 (msC ms0) 36)
      have HB4 := Lib.hid (below_gr (bon (bon HB2.out b4) (below_new w4 (.cells (msC ms0).toArray 36))) (grown_vs (b := w4.heap.size) (msC ms0)) hz4)
      have HX4 := Lib.hid (HT4.out.sets (msC ms0) rfl)
      have HX2 := Lib.hid (((HX2.out.below b4).below (below_new w4 (.cells (msC ms0).toArray 36))).grown (grown_vs (b := w4.heap.size) (msC ms0)) (by have := (HX2.out.below b4).lt; omega))
      clear b4
      go_upto_region 5 with (refine wpList_store_mid rfl 36 _ _ rfl w4.heap.size 0 (msC ms0).toArray rfl rfl ?_ (infoMsn ms0) (msC_one' ms0) ?_; · exact HT4.out.there rfl)
      try simp only [List.toList_toArray]
      clear HT4
      change Code.wp _ _ _ _ ((w4.alloc (.cells (msC ms0).toArray 36)).setCells w4.heap.size 0 (msC ms0))
      generalize (w4.alloc (.cells (msC ms0).toArray 36)).setCells w4.heap.size 0 (msC ms0) = w5 at HB4 HX4 HX2 ⊢
      have HE := Lib.hid (refEqualMs_any ms0 ms0 w5 (ms0_ok _) (ms0_ok _) (by decide) (by decide))
      rw [eqT_self] at HE
      go_wp2_with (first
        | (refine wpList_load_wanted (by rfl) 36 _ rfl w2.heap.size 0 rfl (msC ms0) _ HX2.out.range Tryz.underlying36 rfl (infoMsn ms0) ?_)
        | (refine wpList_load_wanted (by rfl) 36 _ rfl w4.heap.size 0 rfl (msC ms0) _ HX4.out.range Tryz.underlying36 rfl (infoMsn ms0) ?_))
      refine HE.out.mono ?_
      rintro e w6 ⟨rfl, b6⟩
      have HB6 := Lib.hid (bon HB4.out b6)
      clear b6
      go_wp2_with fail
      go_ret
      exact ret_bl rfl HB6.out
    | some m =>
      have HD := Lib.hid hd
      have hms := decMs_sz hd
      clear hd
      go_wp2_with fail
      refine (decM_some (HDp.out w1) HD.out).mono ?_
      rintro e w2 ⟨x, hx, rfl, hxk, b2⟩
      have hz2 : w.heap.size ≤ w2.heap.size := (bon HB1.out b2).size
      have HT2 := Lib.hid (Vr.new w2 (msC ms0) 36)
      have HB2 := Lib.hid (below_gr (bon (bon HB1.out b2) (below_new w2 (.cells (msC ms0).toArray 36))) (grown_vs (b := w2.heap.size) (msC x)) hz2)
      have HX2 := Lib.hid (HT2.out.sets (msC x) rfl)
      have HK2 := Lib.hid (Ms.below hxk (below_gr (below_new w2 (.cells (msC ms0).toArray 36)) (grown_vs (b := w2.heap.size) (msC x)) (Nat.le_refl _)))
      have HEx2 := Lib.hid hx
      clear b2 hx hxk
      go_upto_region 4 with (refine wpList_store_mid rfl 36 _ _ rfl w2.heap.size 0 (msC x).toArray rfl rfl ?_ (infoMsn x) (msC_one' x) ?_; · exact HT2.out.there rfl)
      try simp only [List.toList_toArray]
      clear HT2
      change Code.wp _ _ _ _ ((w2.alloc (.cells (msC ms0).toArray 36)).setCells w2.heap.size 0 (msC x))
      generalize (w2.alloc (.cells (msC ms0).toArray 36)).setCells w2.heap.size 0 (msC x) = w3 at HB2 HX2 HK2 ⊢
      go_wp2_with fail
      refine (decM_some (HDr.out w3) HD.out).mono ?_
      rintro e w4 ⟨y, hx, rfl, hxk, b4⟩
      have hz4 : w.heap.size ≤ w4.heap.size := (bon HB2.out b4).size
      have HT4 := Lib.hid (Vr.new w4 (msC ms0) 36)
      have HB4 := Lib.hid (below_gr (bon (bon HB2.out b4) (below_new w4 (.cells (msC ms0).toArray 36))) (grown_vs (b := w4.heap.size) (msC y)) hz4)
      have HX4 := Lib.hid (HT4.out.sets (msC y) rfl)
      have HK4 := Lib.hid (Ms.below hxk (below_gr (below_new w4 (.cells (msC ms0).toArray 36)) (grown_vs (b := w4.heap.size) (msC y)) (Nat.le_refl _)))
      have HEx4 := Lib.hid hx
      have HX2 := Lib.hid (((HX2.out.below b4).below (below_new w4 (.cells (msC ms0).toArray 36))).grown (grown_vs (b := w4.heap.size) (msC y)) (by have := (HX2.out.below b4).lt; omega))
      have HK2 := Lib.hid (Ms.below (Ms.below HK2.out b4) (below_gr (below_new w4 (.cells (msC ms0).toArray 36)) (grown_vs (b := w4.heap.size) (msC y)) (Nat.le_refl _)))
      clear b4 hx hxk
      go_upto_region 5 with (refine wpList_store_mid rfl 36 _ _ rfl w4.heap.size 0 (msC y).toArray rfl rfl ?_ (infoMsn y) (msC_one' y) ?_; · exact HT4.out.there rfl)
      try simp only [List.toList_toArray]
      clear HT4
      change Code.wp _ _ _ _ ((w4.alloc (.cells (msC ms0).toArray 36)).setCells w4.heap.size 0 (msC y))
      generalize (w4.alloc (.cells (msC ms0).toArray 36)).setCells w4.heap.size 0 (msC y) = w5 at HB4 HX4 HK4 HX2 HK2 ⊢
      have HE := Lib.hid (refEqualMs_any x y w5 HK2.out HK4.out (by rw [← Ms.sz_er, HEx2.out]; omega) (by rw [← Ms.sz_er, HEx4.out]; omega))
      rw [show encMs x = encMs y from by rw [← encMs_er x, ← encMs_er y, HEx2.out, HEx4.out], eqT_self] at HE
      go_wp2_with (first
        | (refine wpList_load_wanted (by rfl) 36 _ rfl w2.heap.size 0 rfl (msC x) _ HX2.out.range Tryz.underlying36 rfl (infoMsn x) ?_)
        | (refine wpList_load_wanted (by rfl) 36 _ rfl w4.heap.size 0 rfl (msC y) _ HX4.out.range Tryz.underlying36 rfl (infoMsn y) ?_))
      refine HE.out.mono ?_
      rintro e w6 ⟨rfl, b6⟩
      have HB6 := Lib.hid (bon HB4.out b6)
      clear b6
      go_wp2_with fail
      go_ret
      exact ret_bl rfl HB6.out
  · have hl1 : (4000 : Int) < (s.size : Int) := by omega
    clear hlen
    go_enter Tryz.func6, Tryz.ntmps6
    go_wp2_with fail
    refine (HA.out _ HB0.out).mono ?_
    rintro e w1 ⟨rfl, b1⟩
    have HB1 := Lib.hid (bon HB0.out b1)
    clear b1
    go_wp2_with fail
    refine (HA.out _ HB1.out).mono ?_
    rintro e w2 ⟨rfl, b2⟩
    have HB2 := Lib.hid (bon HB1.out b2)
    clear b2
    go_wp2_with fail
    go_ret
    exact ret_bl rfl HB2.out
end Go.Proofs.YtoehakekjlebdaaGreatDoor
