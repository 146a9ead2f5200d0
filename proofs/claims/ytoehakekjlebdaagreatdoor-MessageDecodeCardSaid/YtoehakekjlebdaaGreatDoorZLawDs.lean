/- The law MessageDecodeStatus. -/
import Derived.Test.YtoehakekjlebdaaGreatDoorZGb
namespace Go.Proofs.YtoehakekjlebdaaGreatDoor
open Go.RowKit

theorem decS_none {P : Program} {f : FuncId} {args : Array Value} {o : Option St} {w : World} (h : Calls P f args w (RetDecS o w)) (ho : o = none) :
    Calls P f args w fun e w' => e = .returned (.tuple #[.agg #[.int .i64 0, .int .i64 0, .int .i64 0, .int .i64 0, .string ⟨#[]⟩, .slice none 0 0, .int .i64 0, .int .i64 0, .int .i64 0, .int .i64 0, .string ⟨#[]⟩, .string ⟨#[]⟩], .int .i64 2]) ∧ Below w.heap.size w w' :=
  h.mono fun _ _ hh => by
    subst ho
    exact ⟨hh.2, hh.1⟩
theorem decS_some {P : Program} {f : FuncId} {args : Array Value} {o : Option St} {w : World} {m : St} (h : Calls P f args w (RetDecS o w)) (ho : o = some m) :
    Calls P f args w fun e w' => ∃ x : St, x.er = m ∧ e = .returned (.tuple #[.agg #[.int .i64 x.server, .int .i64 x.view, .int .i64 x.length, .int .i64 x.lockView, .string ⟨x.lock.toArray⟩, .slice x.cert.a x.cert.l.length x.cert.c, .int .i64 x.signed.server, .int .i64 x.signed.kind, .int .i64 x.signed.view, .int .i64 x.signed.slot, .string ⟨x.signed.digest.toArray⟩, .string ⟨x.signed.sig.toArray⟩], .int .i64 0]) ∧ x.ok w' ∧ Below w.heap.size w w' :=
  h.mono fun _ _ hh => by
    subst ho
    obtain ⟨hb, x, hx, he, hk⟩ := hh
    exact ⟨x, hx, he, hk, hb⟩
theorem st0_ok (w : World) : st0.ok w := ⟨⟨⟨by decide, by decide⟩, ⟨by decide, by decide⟩, ⟨by decide, by decide⟩, ⟨by decide, by decide⟩⟩, Rd.nil _ _ _, by simp [st0, Sl.nil], ⟨⟨by decide, by decide⟩, ⟨by decide, by decide⟩, ⟨by decide, by decide⟩, ⟨by decide, by decide⟩⟩⟩
theorem decSt_sz {s : List UInt8} {m : St} (h : decSt s = some m) : m.sz ≤ 4200 := by
  unfold decSt at h
  cases hw : whole rdSt s with
  | none => rw [hw] at h; simp at h
  | some y =>
    rw [hw] at h
    simp only at h
    split at h
    · rename_i hv
      simp only [Option.some.injEq] at h
      subst h
      refine st_short ?_
      unfold vSt at hv
      split at hv
      · simp at hv
      · split at hv
        · simp at hv
        · rename_i h2; simpa using h2
    · simp at h
set_option maxRecDepth 100000 in
set_option maxHeartbeats 2000000 in
theorem lawDecodeStatus (s : ByteArray) (w : World) (he : Env w) : Calls Tryz.prog 4 #[.string s] w (RetBool true w) := by
  have HA : Hid (∀ w1, Below w.heap.size w w1 → Calls Tryz.prog 7 #[] w1 (RetBool true w1)) := Lib.hid (fun w1 hb => awake_any w1 (he.below hb))
  have HB0 := Lib.hid (Below.refl w.heap.size w)
  clear he
  by_cases hlen : s.size ≤ 4000
  · have hl1 : ¬ (4000 : Int) < (s.size : Int) := by omega
    obtain ⟨l, hl⟩ : ∃ l, l = s.data.toList := ⟨_, rfl⟩
    have hs : s = ⟨l.toArray⟩ := by rw [hl, str_mk]
    subst hs
    have hll : l.length ≤ 4000 := by rwa [size_mk] at hlen
    have HDp : Hid (∀ W, Calls Tryz.prog 11 #[.string ⟨l.toArray⟩] W (RetDecS (decSt l) W)) := Lib.hid (fun W => decodeStatus_any l W (Nat.le_trans hll (by decide)))
    have HDr : Hid (∀ W, Calls Tryz.prog 13 #[.string ⟨l.toArray⟩] W (RetDecS (decSt l) W)) := Lib.hid (fun W => refDecodeStatus_any l W (Nat.le_trans hll (by decide)))
    clear hl hlen
    go_enter Tryz.func4, Tryz.ntmps4
    go_wp2_with fail
    refine (HA.out _ HB0.out).mono ?_
    rintro e w1 ⟨rfl, b1⟩
    have HB1 := Lib.hid (bon HB0.out b1)
    clear b1
    cases hd : decSt l with
    | none =>
      have HD := Lib.hid hd
      clear hd
      go_wp2_with fail
      refine (decS_none (HDp.out w1) HD.out).mono ?_
      rintro e w2 ⟨rfl, b2⟩
      have HB2 := Lib.hid (bon (bon HB1.out b2) (below_new w2 (.cells (stC st0).toArray 26)))
      have HX2 := Lib.hid (Vr.new w2 (stC st0) 26)
      clear b2
      go_upto_region 4 with fail
      obtain ⟨w3, hw3⟩ : ∃ w3, w3 = w2.alloc (.cells (stC st0).toArray 26) := ⟨_, rfl⟩
      rw [← hw3] at HB2 HX2
      change Code.wp _ _ _ _ (w2.alloc (.cells (stC st0).toArray 26))
      rw [← hw3]
      clear hw3
      go_wp2_with fail
      refine (decS_none (HDr.out w3) HD.out).mono ?_
      rintro e w4 ⟨rfl, b4⟩
      have HB4 := Lib.hid (bon (bon HB2.out b4) (below_new w4 (.cells (stC st0).toArray 26)))
      have HX4 := Lib.hid ((HX2.out.below b4).below (below_new w4 (.cells (stC st0).toArray 26)))
      have HY4 := Lib.hid (Vr.new w4 (stC st0) 26)
      clear b4
      go_upto_region 5 with fail
      obtain ⟨w5, hw5⟩ : ∃ w5, w5 = w4.alloc (.cells (stC st0).toArray 26) := ⟨_, rfl⟩
      rw [← hw5] at HB4 HX4 HY4
      change Code.wp _ _ _ _ (w4.alloc (.cells (stC st0).toArray 26))
      rw [← hw5]
      clear hw5
      have HE := Lib.hid (refEqualStatus_any st0 st0 w5 (st0_ok _) (st0_ok _) (by decide) (by decide))
      rw [eqT_self] at HE
      go_wp2_with (first
        | (refine wpList_load_wanted (by rfl) 26 _ rfl w2.heap.size 0 rfl (stC st0) _ HX4.out.range Tryz.underlying26 rfl (infoStn st0) ?_)
        | (refine wpList_load_wanted (by rfl) 26 _ rfl w4.heap.size 0 rfl (stC st0) _ HY4.out.range Tryz.underlying26 rfl (infoStn st0) ?_))
      refine HE.out.mono ?_
      rintro e w6 ⟨rfl, b6⟩
      have HB6 := Lib.hid (bon HB4.out b6)
      clear b6
      go_wp2_with fail
      go_ret
      exact ret_bl rfl HB6.out
    | some m =>
      have HD := Lib.hid hd
      have hms := decSt_sz hd
      clear hd
      go_wp2_with fail
      refine (decS_some (HDp.out w1) HD.out).mono ?_
      rintro e w2 ⟨x, hx, rfl, hxk, b2⟩
      have HB2 := Lib.hid (bon (bon HB1.out b2) (below_new w2 (.cells (stC x).toArray 26)))
      have HX2 := Lib.hid (Vr.new w2 (stC x) 26)
      have HK2 := Lib.hid (St.below hxk (below_new w2 (.cells (stC x).toArray 26)))
      have HEx := Lib.hid hx
      clear b2 hx hxk
      go_upto_region 4 with fail
      obtain ⟨w3, hw3⟩ : ∃ w3, w3 = w2.alloc (.cells (stC x).toArray 26) := ⟨_, rfl⟩
      rw [← hw3] at HB2 HX2 HK2
      change Code.wp _ _ _ _ (w2.alloc (.cells (stC x).toArray 26))
      rw [← hw3]
      clear hw3
      go_wp2_with fail
      refine (decS_some (HDr.out w3) HD.out).mono ?_
      rintro e w4 ⟨y, hy, rfl, hyk, b4⟩
      have HB4 := Lib.hid (bon (bon HB2.out b4) (below_new w4 (.cells (stC y).toArray 26)))
      have HX4 := Lib.hid ((HX2.out.below b4).below (below_new w4 (.cells (stC y).toArray 26)))
      have HY4 := Lib.hid (Vr.new w4 (stC y) 26)
      have HK4 := Lib.hid (St.below (St.below HK2.out b4) (below_new w4 (.cells (stC y).toArray 26)))
      have HL4 := Lib.hid (St.below hyk (below_new w4 (.cells (stC y).toArray 26)))
      have HEy := Lib.hid hy
      clear b4 hy hyk
      go_upto_region 5 with fail
      obtain ⟨w5, hw5⟩ : ∃ w5, w5 = w4.alloc (.cells (stC y).toArray 26) := ⟨_, rfl⟩
      rw [← hw5] at HB4 HX4 HY4 HK4 HL4
      change Code.wp _ _ _ _ (w4.alloc (.cells (stC y).toArray 26))
      rw [← hw5]
      clear hw5
      have HE := Lib.hid (refEqualStatus_any x y w5 HK4.out HL4.out (by have : x.er.sz = x.sz := rfl; rw [← this, HEx.out]; omega) (by have : y.er.sz = y.sz := rfl; rw [← this, HEy.out]; omega))
      rw [show encSt x = encSt y from by rw [← encSt_er x, ← encSt_er y, HEx.out, HEy.out], eqT_self] at HE
      go_wp2_with (first
        | (refine wpList_load_wanted (by rfl) 26 _ rfl w2.heap.size 0 rfl (stC x) _ HX4.out.range Tryz.underlying26 rfl (infoStn x) ?_)
        | (refine wpList_load_wanted (by rfl) 26 _ rfl w4.heap.size 0 rfl (stC y) _ HY4.out.range Tryz.underlying26 rfl (infoStn y) ?_))
      refine HE.out.mono ?_
      rintro e w6 ⟨rfl, b6⟩
      have HB6 := Lib.hid (bon HB4.out b6)
      clear b6
      go_wp2_with fail
      go_ret
      exact ret_bl rfl HB6.out
  · have hl1 : (4000 : Int) < (s.size : Int) := by omega
    clear hlen
    go_enter Tryz.func4, Tryz.ntmps4
    go_wp2_with fail
    refine (HA.out _ HB0.out).mono ?_
    rintro e w1 ⟨rfl, b1⟩
    have HB1 := Lib.hid (bon HB0.out b1)
    clear b1
    go_wp2_with fail
    refine (HA.out _ HB1.out).mono ?_
    rintro e w2 ⟨rfl, b2⟩
    have HB2 := Lib.hid (bon HB1.out b2)
    clear b2
    go_wp2_with fail
    go_ret
    exact ret_bl rfl HB2.out
end Go.Proofs.YtoehakekjlebdaaGreatDoor
