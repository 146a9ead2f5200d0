/- The contract of the reference's Parse of operations. -/
import Derived.Test.YtepbbaifpckcpaaGreatDoorVPl
import Derived.Test.YtepbbaifpckcpaaGreatDoorVStG
import Derived.Test.YtepbbaifpckcpaaGreatDoorVStE
namespace Go.Proofs.YtepbbaifpckcpaaGreatDoor
open Go.RowKit
theorem ref_kind_all {s : List UInt8} {r : List (List UInt8)} {k : Nat} (h1 : 1 ≤ k) (h6 : k ≤ 6) (h : cut s = opWord k :: r) : kindOk k s = (opOkF k (refKey r) (refOld k r) (refNew k r) && (opText k (refKey r) (refOld k r) (refNew k r) == s)) := (ref_kind h1 h6 h).symm
theorem ref_sizes {s : List UInt8} {x : List UInt8} {r : List (List UInt8)} {k m : Nat} (h : cut s = x :: r) (hm : s.length ≤ m) (hm2 : m ≤ 300000) : (refKey r).length + (refOld k r).length + (refNew k r).length ≤ 1048576 := by
 have hl : ∀ y ∈ r, y.length ≤ m := fun y hy => Nat.le_trans (cut_len s y (by rw [h]; exact List.mem_cons_of_mem _ hy)) hm
 have hd : ∀ t : List (List UInt8), (∀ y ∈ t, y.length ≤ m) → (t.headD []).length ≤ m := fun t ht => by
  cases t with
  | nil => simp
  | cons a u => exact ht a (by simp)
 have h1 : (refKey r).length ≤ m := hd r hl
 have ht : ∀ y ∈ r.tail, y.length ≤ m := fun y hy => hl y (List.mem_of_mem_tail hy)
 have htt : ∀ y ∈ r.tail.tail, y.length ≤ m := fun y hy => ht y (List.mem_of_mem_tail hy)
 have h2 : (refOld k r).length ≤ m := by
  unfold refOld
  split
  · exact hd _ ht
  · simp
 have h3 : (refNew k r).length ≤ m := by
  unfold refNew
  split
  · exact hd _ htt
  · exact hd _ ht
 omega
set_option maxRecDepth 100000 in
set_option maxHeartbeats 16000000 in
theorem refParse_any (s : ByteArray) (w : World) (hs : s.size ≤ 300000) : Calls Tryz.prog 103 #[.string s] w (RetPar (opOk s.data.toList) w) := by
 obtain ⟨x, r, hcut⟩ := cut_cons s.data.toList
 have HCx := hD hcut
 have HSp : Hid (∀ W, Calls Tryz.prog 146 #[.string s] W (RetStrs (x :: r) W)) := hD (fun W => by rw [← hcut]; exact refSplit_any s W (by omega))
 have HLen : Hid (s.data.toList.length ≤ 300000) := hD (by simpa using hs)
 have hss : (300000 : Nat) ≤ 300000 := Nat.le_refl _
 clear hcut
 have HX2 := hD (Vr.new w [.int .i64 0, .string ⟨#[]⟩, .string ⟨#[]⟩, .string ⟨#[]⟩] 124)
 have HB := hD (below_new w (.cells #[.int .i64 0, .string ⟨#[]⟩, .string ⟨#[]⟩, .string ⟨#[]⟩] 124))
 have HB2 : Hid (w.heap.size ≤ w.heap.size) := hD (Nat.le_refl _)
 go_enter Tryz.func103, Tryz.ntmps103
 go_wp2_with fail
 generalize w.alloc (.cells #[.int .i64 0, .string ⟨#[]⟩, .string ⟨#[]⟩, .string ⟨#[]⟩] 124) = w1 at HX2 HB ⊢
 generalize hb2 : w.heap.size = b2 at HX2 ⊢
 have HB2 : Hid (w.heap.size ≤ b2) := hD (Nat.le_of_eq hb2)
 clear hb2
 refine (HSp.out w1).mono ?_
 rintro e w2 ⟨A, c, rfl, hrd, hs2⟩
 have HX2 := hD (HX2.out.below hs2)
 have HB := hD (bon HB.out hs2)
 have HR := hD hrd
 obtain ⟨gw, ow, rfl, _, _⟩ := hrd.cells (by rw [strC_len]; simp)
 have HW : Hid (∀ W, Rd W 1 (some ⟨gw, ow, none⟩) (x :: r).length (strC (x :: r)) → World.cell? W ⟨gw, ow, none⟩ = some (.string ⟨x.toArray⟩) ∧ ∀ j u, (strC (x :: r))[j]? = some u → World.cell? W ⟨gw, ow + j, none⟩ = some u) := hD (fun W h => by
  obtain ⟨b, o, e1, _, hc⟩ := h.cells (by rw [strC_len]; simp)
  simp only [Option.some.injEq, Addr.mk.injEq] at e1
  obtain ⟨rfl, rfl, _⟩ := e1
  exact ⟨hc 0 _ rfl, hc⟩)
 clear hrd hs2
 generalize hm : (x :: r).length = m
 have HM := hD hm
 have hm0 : 0 < m := by rw [← hm]; simp
 have hm0i : (0 : Int) < (m : Int) := by omega
 clear hm
 have HJ0 : Hid (∀ j, 1 ≤ j → j < 1 → kindOk j s.data.toList = false) := hD (fun j h1 h2 => by omega)
 go_wp2_with fail
 go_loopw [5] (fun i wr => ∃ k : Nat, i = .int .i64 k ∧ 1 ≤ k ∧ k ≤ 7 ∧ (∀ j, 1 ≤ j → j < k → kindOk j s.data.toList = false) ∧ Vr wr b2 [.int .i64 0, .string ⟨#[]⟩, .string ⟨#[]⟩, .string ⟨#[]⟩] ∧ Rd wr 1 (some ⟨gw, ow, none⟩) (x :: r).length (strC (x :: r)) ∧ Below w.heap.size w wr) (fun i _ => 7 - (intOf i).toNat)
 case atStart => exact ⟨1, rfl, by omega, by omega, HJ0.out, HX2.out, HR.out, HB.out⟩
 case round =>
  obtain ⟨k, rfl, hk1, hk7, hj, hx2, hr, hb⟩ := hrel
  have HJ := hD hj
  have HX2 := hD hx2
  have HR := hD hr
  have HB := hD hb
  clear hj hx2 hr hb
  by_cases hk6 : k ≤ 6
  · have i0 : (k : Int) ≤ 6 := by omega
    have i1 : (0 : Int) ≤ (k : Int) := by omega
    by_cases hxk : x = opWord k
    · have HCut : Hid (cut s.data.toList = opWord k :: r) := hD (by rw [HCx.out, hxk])
      have hne : (x == opWord k) = true := by simpa using hxk
      have hne2 : (x != opWord k) = false := by simp [hxk]
      clear hxk
      go_wp2_with fail
      refine wp_region_noPanic ?_
      have HX2 := hD (HX2.out.below (Below.refl _ _).drew)
      have HB := hD (HB.out.drew)
      have HR := hD (HR.out.below (Below.refl _ _).drew)
      generalize hv : wr.drew = v0 at HX2 HB HR
      have hS0 : World.cell? v0 ⟨gw, ow, none⟩ = some (.string ⟨x.toArray⟩) := (HW.out _ HR.out).1
      refine wp_region_held_drew (S := fun W => World.cell? W ⟨gw, ow, none⟩ = some (.string ⟨x.toArray⟩)) (by kernel_rfl) (by rw [hv]; exact hS0) (fun hHeld => ?_)
      rw [hv] at hHeld ⊢
      clear hv
      refine tkq 0 rfl (v := ?_) (.inl ⟨by rfl, ?_⟩) (by assumption) ?_
      rotate_left
      · intro W h; (try dsimp only at h); go_simp; try with_reducible rfl
      try simp only [Act.put,qk1,qk2,qk3,qk4,qk6]
      refine tkq 1 rfl (v := ?_) (.inl ⟨by rfl, ?_⟩) (by assumption) ?_
      rotate_left
      · intro W h; (try dsimp only at h); go_simp; try with_reducible rfl
      try simp only [Act.put,qk1,qk2,qk3,qk4,qk5,qk6]
      refine tkq 2 rfl (v := ?_) (.inl ⟨by rfl, ?_⟩) (by assumption) ?_
      rotate_left
      · intro W h; (try dsimp only at h); go_simp; try with_reducible rfl
      try simp only [Act.put,qk1,qk2,qk3,qk4,qk5,qk6]
      refine tkq 3 rfl (v := ?_) (.inl ⟨by rfl, ?_⟩) (by assumption) ?_
      rotate_left
      · intro W h; (try dsimp only at h); go_simp; try with_reducible rfl
      try simp only [Act.put,qk1,qk2,qk3,qk4,qk5,qk6]
      refine tkr 4 rfl (fun K hK => ?_)
      go_simp
      go_at_call 147
      refine (refName_any k hk1 hk6 _).mono ?_
      rintro e v1 ⟨rfl, hs⟩
      have HX2 := hD (HX2.out.below hs)
      have HB := hD (bon HB.out hs)
      have HR := hD (HR.out.below hs)
      clear hs
      have hS1 : World.cell? v1 ⟨gw, ow, none⟩ = some (.string ⟨x.toArray⟩) := (HW.out _ HR.out).1
      go_wp2_with fail
      refine hK.out _ _ hS1 (fun hHeld => ?_)
      clear hK K
      try simp only [Act.put,qk1,qk2,qk3,qk4,qk5,qk6]
      refine tkq 5 rfl (v := ?_) (.inl ⟨by rfl, ?_⟩) (by assumption) ?_
      rotate_left
      · intro W h; (try dsimp only at h); go_simp; try with_reducible rfl
      try simp only [Act.put,qk1,qk2,qk3,qk4,qk5,qk6]
      refine wpAnyH_done (by kernel_rfl) ?_ _
      refine NoPanic.normal ?_
      clear hS0 hS1
      have hcell := (HW.out _ HR.out).2
      have hgl : gw < v1.heap.size := by
       obtain ⟨b, o, e1, hb, _⟩ := HR.out.cells (by rw [strC_len]; simp)
       simp only [Option.some.injEq, Addr.mk.injEq] at e1
       obtain ⟨rfl, rfl, _⟩ := e1
       exact hb
      clear hne hne2
      by_cases hk5 : k = 5
      · have k5 : ((k : Int) == 5) = true := by simp; omega
        have k5n : ((k : Int) != 5) = false := by simp; omega
        have HK5 := hD hk5
        clear hk5
        rcases r with _ | ⟨a, _ | ⟨b, _ | ⟨c, t⟩⟩⟩
        · have hmm : m = 1 := by have h := HM.out; simp at h; omega
          have m1 : ¬ ((1 : Int) < (m : Int)) := by omega
          have e1 : ¬ (1 < m) := by omega
          have m2 : ¬ ((2 : Int) < (m : Int)) := by omega
          have e2 : ¬ (2 < m) := by omega
          have m3 : ¬ ((3 : Int) < (m : Int)) := by omega
          have e3 : ¬ (3 < m) := by omega
          clear hmm
          have HF6 := hD (Vr.new v1 [.int .i64 (k : Int), .string ⟨#[]⟩, .string ⟨#[]⟩, .string ⟨#[]⟩] 124)
          have HBg := hD (below_new v1 (.cells #[.int .i64 (k : Int), .string ⟨#[]⟩, .string ⟨#[]⟩, .string ⟨#[]⟩] 124))
          have hl1 : v1.heap.size < (v1.alloc (.cells #[.int .i64 (k : Int), .string ⟨#[]⟩, .string ⟨#[]⟩, .string ⟨#[]⟩] 124)).heap.size := by simp
          go_upto_region 15 with fail
          change Code.wp _ _ _ _ (v1.alloc (.cells #[.int .i64 (k : Int), .string ⟨#[]⟩, .string ⟨#[]⟩, .string ⟨#[]⟩] 124))
          clear hl1 m1 m2 m3 e1 e2 e3 
          have HX2 := hD (HX2.out.below HBg.out)
          have HR := hD (HR.out.below HBg.out)
          have HB := hD (bon HB.out HBg.out)
          have HX6 : Hid (Vr (v1.alloc (.cells #[.int .i64 (k : Int), .string ⟨#[]⟩, .string ⟨#[]⟩, .string ⟨#[]⟩] 124)) v1.heap.size [.int .i64 (k : Int), .string ⟨(refKey []).toArray⟩, .string ⟨(refOld k []).toArray⟩, .string ⟨(refNew k []).toArray⟩]) := hD (HF6.out.eq (by have h5 := HK5.out; subst h5; rfl))
          have HSz : Hid ((refKey []).length + (refOld k []).length + (refNew k []).length ≤ 1048576) := hD (ref_sizes HCut.out HLen.out hss)
          clear HF6 HBg
          generalize (v1.alloc (.cells #[.int .i64 (k : Int), .string ⟨#[]⟩, .string ⟨#[]⟩, .string ⟨#[]⟩] 124)) = wv at HX2 HR HB HX6 ⊢
          generalize v1.heap.size = b6 at HX6 ⊢
          have HFm := hD (refFormat_any k hk1 hk6 (refKey []) (refOld k []) (refNew k []) wv HSz.out)
          go_wp2_with (refine wpList_load_mid rfl 124 _ rfl b6 0 rfl [.int .i64 (k : Int), .string ⟨(refKey []).toArray⟩, .string ⟨(refOld k []).toArray⟩, .string ⟨(refNew k []).toArray⟩] _ HX6.out.range Tryz.underlying124 rfl infoOpT ?_)
          refine HFm.out.mono ?_
          rintro e w8 ⟨hyes, hno, hs⟩
          have HX6 := hD (HX6.out.below hs)
          have HX2 := hD (HX2.out.below hs)
          have HB := hD (bon HB.out hs)
          have HR := hD (HR.out.below hs)
          clear hs
          cases hq : opOkF k (refKey []) (refOld k []) (refNew k []) with
          | false =>
           obtain rfl := hno hq
           have HK : Hid (kindOk k s.data.toList = false) := hD (by rw [ref_kind_all hk1 hk6 HCut.out, hq]; rfl)
           clear hq hyes hno
           have HNo : Hid (∀ j, 1 ≤ j → j < k + 1 → kindOk j s.data.toList = false) := hD (fun j h1 h2 => by
            rcases Nat.lt_or_ge j k with h3 | h3
            · exact HJ.out j h1 h3
            · obtain rfl : j = k := by omega
              exact HK.out)
           go_wp2_with fail
           go_roundw
           case rel => exact ⟨k + 1, by go_num, by omega, by omega, HNo.out, HX2.out, HR.out, HB.out⟩
           case measure => simp [intOf]; omega
          | true =>
           obtain rfl := hyes hq
           clear hno hyes
           cases ht : (opText k (refKey []) (refOld k []) (refNew k []) == s.data.toList) with
           | false =>
            have HK : Hid (kindOk k s.data.toList = false) := hD (by rw [ref_kind_all hk1 hk6 HCut.out, ht]; simp)
            have t1 : (opText k (refKey []) (refOld k []) (refNew k []) == s.toList) = false := by rw [Lib.toList_data]; exact ht
            clear ht hq
            have HNo : Hid (∀ j, 1 ≤ j → j < k + 1 → kindOk j s.data.toList = false) := hD (fun j h1 h2 => by
             rcases Nat.lt_or_ge j k with h3 | h3
             · exact HJ.out j h1 h3
             · obtain rfl : j = k := by omega
               exact HK.out)
            go_wp2_with fail
            go_roundw
            case rel => exact ⟨k + 1, by go_num, by omega, by omega, HNo.out, HX2.out, HR.out, HB.out⟩
            case measure => simp [intOf]; omega
           | true =>
            have HK : Hid (opOk s.data.toList = true) := hD (opOk_of hk1 hk6 (by rw [ref_kind_all hk1 hk6 HCut.out, ht, hq]; rfl))
            have t1 : (opText k (refKey []) (refOld k []) (refNew k []) == s.toList) = true := by rw [Lib.toList_data]; exact ht
            clear ht hq
            have HR2 := hD (HX2.out.sets [.int .i64 (k : Int), .string ⟨(refKey []).toArray⟩, .string ⟨(refOld k []).toArray⟩, .string ⟨(refNew k []).toArray⟩] rfl)
            have HB3 := hD (below_gr HB.out (grown_vs (b := b2) [.int .i64 (k : Int), .string ⟨(refKey []).toArray⟩, .string ⟨(refOld k []).toArray⟩, .string ⟨(refNew k []).toArray⟩]) HB2.out)
            go_wp2_with (first
             | (refine wpList_load_mid rfl 124 _ rfl b6 0 rfl [.int .i64 (k : Int), .string ⟨(refKey []).toArray⟩, .string ⟨(refOld k []).toArray⟩, .string ⟨(refNew k []).toArray⟩] _ HX6.out.range Tryz.underlying124 rfl infoOpT ?_)
             | (refine wpList_store_mid rfl 124 _ _ rfl b2 0 #[.int .i64 (k : Int), .string ⟨(refKey []).toArray⟩, .string ⟨(refOld k []).toArray⟩, .string ⟨(refNew k []).toArray⟩] rfl rfl ?_ infoOpT (op4_one _ _ _ _) ?_; · exact HX2.out.there rfl))
            refine bodyPost_ret (v := .tuple #[.agg #[.int .i64 (k : Int), .string ⟨(refKey []).toArray⟩, .string ⟨(refOld k []).toArray⟩, .string ⟨(refNew k []).toArray⟩], .int .i64 0]) ?_ rfl (ret_par (ok := opOk s.data.toList) (by rw [HK.out]; rfl) HB3.out)
            exact results_mid_slot Tryz.results103 _ _ b2 [.int .i64 (k : Int), .string ⟨(refKey []).toArray⟩, .string ⟨(refOld k []).toArray⟩, .string ⟨(refNew k []).toArray⟩] _ _ rfl rfl HR2.out.range Tryz.underlying124 rfl infoOpT
        · have w1 := hcell 1 _ rfl
          have hmm : m = 2 := by have h := HM.out; simp at h; omega
          have m1 : (1 : Int) < (m : Int) := by omega
          have e1 : 1 < m := by omega
          have m2 : ¬ ((2 : Int) < (m : Int)) := by omega
          have e2 : ¬ (2 < m) := by omega
          have m3 : ¬ ((3 : Int) < (m : Int)) := by omega
          have e3 : ¬ (3 < m) := by omega
          clear hmm
          have HF6 := hD (Vr.new v1 [.int .i64 (k : Int), .string ⟨a.toArray⟩, .string ⟨#[]⟩, .string ⟨#[]⟩] 124)
          have HBg := hD (below_new v1 (.cells #[.int .i64 (k : Int), .string ⟨a.toArray⟩, .string ⟨#[]⟩, .string ⟨#[]⟩] 124))
          have hl1 : v1.heap.size < (v1.alloc (.cells #[.int .i64 (k : Int), .string ⟨#[]⟩, .string ⟨#[]⟩, .string ⟨#[]⟩] 124)).heap.size := by simp
          go_upto_region 15 with fail
          change Code.wp _ _ _ _ (v1.alloc (.cells #[.int .i64 (k : Int), .string ⟨a.toArray⟩, .string ⟨#[]⟩, .string ⟨#[]⟩] 124))
          clear hl1 m1 m2 m3 e1 e2 e3 w1
          have HX2 := hD (HX2.out.below HBg.out)
          have HR := hD (HR.out.below HBg.out)
          have HB := hD (bon HB.out HBg.out)
          have HX6 : Hid (Vr (v1.alloc (.cells #[.int .i64 (k : Int), .string ⟨a.toArray⟩, .string ⟨#[]⟩, .string ⟨#[]⟩] 124)) v1.heap.size [.int .i64 (k : Int), .string ⟨(refKey [a]).toArray⟩, .string ⟨(refOld k [a]).toArray⟩, .string ⟨(refNew k [a]).toArray⟩]) := hD (HF6.out.eq (by have h5 := HK5.out; subst h5; rfl))
          have HSz : Hid ((refKey [a]).length + (refOld k [a]).length + (refNew k [a]).length ≤ 1048576) := hD (ref_sizes HCut.out HLen.out hss)
          clear HF6 HBg
          generalize (v1.alloc (.cells #[.int .i64 (k : Int), .string ⟨a.toArray⟩, .string ⟨#[]⟩, .string ⟨#[]⟩] 124)) = wv at HX2 HR HB HX6 ⊢
          generalize v1.heap.size = b6 at HX6 ⊢
          have HFm := hD (refFormat_any k hk1 hk6 (refKey [a]) (refOld k [a]) (refNew k [a]) wv HSz.out)
          go_wp2_with (refine wpList_load_mid rfl 124 _ rfl b6 0 rfl [.int .i64 (k : Int), .string ⟨(refKey [a]).toArray⟩, .string ⟨(refOld k [a]).toArray⟩, .string ⟨(refNew k [a]).toArray⟩] _ HX6.out.range Tryz.underlying124 rfl infoOpT ?_)
          refine HFm.out.mono ?_
          rintro e w8 ⟨hyes, hno, hs⟩
          have HX6 := hD (HX6.out.below hs)
          have HX2 := hD (HX2.out.below hs)
          have HB := hD (bon HB.out hs)
          have HR := hD (HR.out.below hs)
          clear hs
          cases hq : opOkF k (refKey [a]) (refOld k [a]) (refNew k [a]) with
          | false =>
           obtain rfl := hno hq
           have HK : Hid (kindOk k s.data.toList = false) := hD (by rw [ref_kind_all hk1 hk6 HCut.out, hq]; rfl)
           clear hq hyes hno
           have HNo : Hid (∀ j, 1 ≤ j → j < k + 1 → kindOk j s.data.toList = false) := hD (fun j h1 h2 => by
            rcases Nat.lt_or_ge j k with h3 | h3
            · exact HJ.out j h1 h3
            · obtain rfl : j = k := by omega
              exact HK.out)
           go_wp2_with fail
           go_roundw
           case rel => exact ⟨k + 1, by go_num, by omega, by omega, HNo.out, HX2.out, HR.out, HB.out⟩
           case measure => simp [intOf]; omega
          | true =>
           obtain rfl := hyes hq
           clear hno hyes
           cases ht : (opText k (refKey [a]) (refOld k [a]) (refNew k [a]) == s.data.toList) with
           | false =>
            have HK : Hid (kindOk k s.data.toList = false) := hD (by rw [ref_kind_all hk1 hk6 HCut.out, ht]; simp)
            have t1 : (opText k (refKey [a]) (refOld k [a]) (refNew k [a]) == s.toList) = false := by rw [Lib.toList_data]; exact ht
            clear ht hq
            have HNo : Hid (∀ j, 1 ≤ j → j < k + 1 → kindOk j s.data.toList = false) := hD (fun j h1 h2 => by
             rcases Nat.lt_or_ge j k with h3 | h3
             · exact HJ.out j h1 h3
             · obtain rfl : j = k := by omega
               exact HK.out)
            go_wp2_with fail
            go_roundw
            case rel => exact ⟨k + 1, by go_num, by omega, by omega, HNo.out, HX2.out, HR.out, HB.out⟩
            case measure => simp [intOf]; omega
           | true =>
            have HK : Hid (opOk s.data.toList = true) := hD (opOk_of hk1 hk6 (by rw [ref_kind_all hk1 hk6 HCut.out, ht, hq]; rfl))
            have t1 : (opText k (refKey [a]) (refOld k [a]) (refNew k [a]) == s.toList) = true := by rw [Lib.toList_data]; exact ht
            clear ht hq
            have HR2 := hD (HX2.out.sets [.int .i64 (k : Int), .string ⟨(refKey [a]).toArray⟩, .string ⟨(refOld k [a]).toArray⟩, .string ⟨(refNew k [a]).toArray⟩] rfl)
            have HB3 := hD (below_gr HB.out (grown_vs (b := b2) [.int .i64 (k : Int), .string ⟨(refKey [a]).toArray⟩, .string ⟨(refOld k [a]).toArray⟩, .string ⟨(refNew k [a]).toArray⟩]) HB2.out)
            go_wp2_with (first
             | (refine wpList_load_mid rfl 124 _ rfl b6 0 rfl [.int .i64 (k : Int), .string ⟨(refKey [a]).toArray⟩, .string ⟨(refOld k [a]).toArray⟩, .string ⟨(refNew k [a]).toArray⟩] _ HX6.out.range Tryz.underlying124 rfl infoOpT ?_)
             | (refine wpList_store_mid rfl 124 _ _ rfl b2 0 #[.int .i64 (k : Int), .string ⟨(refKey [a]).toArray⟩, .string ⟨(refOld k [a]).toArray⟩, .string ⟨(refNew k [a]).toArray⟩] rfl rfl ?_ infoOpT (op4_one _ _ _ _) ?_; · exact HX2.out.there rfl))
            refine bodyPost_ret (v := .tuple #[.agg #[.int .i64 (k : Int), .string ⟨(refKey [a]).toArray⟩, .string ⟨(refOld k [a]).toArray⟩, .string ⟨(refNew k [a]).toArray⟩], .int .i64 0]) ?_ rfl (ret_par (ok := opOk s.data.toList) (by rw [HK.out]; rfl) HB3.out)
            exact results_mid_slot Tryz.results103 _ _ b2 [.int .i64 (k : Int), .string ⟨(refKey [a]).toArray⟩, .string ⟨(refOld k [a]).toArray⟩, .string ⟨(refNew k [a]).toArray⟩] _ _ rfl rfl HR2.out.range Tryz.underlying124 rfl infoOpT
        · have w1 := hcell 1 _ rfl
          have w2 := hcell 2 _ rfl
          have hmm : m = 3 := by have h := HM.out; simp at h; omega
          have m1 : (1 : Int) < (m : Int) := by omega
          have e1 : 1 < m := by omega
          have m2 : (2 : Int) < (m : Int) := by omega
          have e2 : 2 < m := by omega
          have m3 : ¬ ((3 : Int) < (m : Int)) := by omega
          have e3 : ¬ (3 < m) := by omega
          clear hmm
          have HF6 := hD (Vr.new v1 [.int .i64 (k : Int), .string ⟨a.toArray⟩, .string ⟨b.toArray⟩, .string ⟨#[]⟩] 124)
          have HBg := hD (below_new v1 (.cells #[.int .i64 (k : Int), .string ⟨a.toArray⟩, .string ⟨b.toArray⟩, .string ⟨#[]⟩] 124))
          have hl1 : v1.heap.size < (v1.alloc (.cells #[.int .i64 (k : Int), .string ⟨#[]⟩, .string ⟨#[]⟩, .string ⟨#[]⟩] 124)).heap.size := by simp
          go_upto_region 15 with fail
          change Code.wp _ _ _ _ (v1.alloc (.cells #[.int .i64 (k : Int), .string ⟨a.toArray⟩, .string ⟨b.toArray⟩, .string ⟨#[]⟩] 124))
          clear hl1 m1 m2 m3 e1 e2 e3 w1 w2
          have HX2 := hD (HX2.out.below HBg.out)
          have HR := hD (HR.out.below HBg.out)
          have HB := hD (bon HB.out HBg.out)
          have HX6 : Hid (Vr (v1.alloc (.cells #[.int .i64 (k : Int), .string ⟨a.toArray⟩, .string ⟨b.toArray⟩, .string ⟨#[]⟩] 124)) v1.heap.size [.int .i64 (k : Int), .string ⟨(refKey [a, b]).toArray⟩, .string ⟨(refOld k [a, b]).toArray⟩, .string ⟨(refNew k [a, b]).toArray⟩]) := hD (HF6.out.eq (by have h5 := HK5.out; subst h5; rfl))
          have HSz : Hid ((refKey [a, b]).length + (refOld k [a, b]).length + (refNew k [a, b]).length ≤ 1048576) := hD (ref_sizes HCut.out HLen.out hss)
          clear HF6 HBg
          generalize (v1.alloc (.cells #[.int .i64 (k : Int), .string ⟨a.toArray⟩, .string ⟨b.toArray⟩, .string ⟨#[]⟩] 124)) = wv at HX2 HR HB HX6 ⊢
          generalize v1.heap.size = b6 at HX6 ⊢
          have HFm := hD (refFormat_any k hk1 hk6 (refKey [a, b]) (refOld k [a, b]) (refNew k [a, b]) wv HSz.out)
          go_wp2_with (refine wpList_load_mid rfl 124 _ rfl b6 0 rfl [.int .i64 (k : Int), .string ⟨(refKey [a, b]).toArray⟩, .string ⟨(refOld k [a, b]).toArray⟩, .string ⟨(refNew k [a, b]).toArray⟩] _ HX6.out.range Tryz.underlying124 rfl infoOpT ?_)
          refine HFm.out.mono ?_
          rintro e w8 ⟨hyes, hno, hs⟩
          have HX6 := hD (HX6.out.below hs)
          have HX2 := hD (HX2.out.below hs)
          have HB := hD (bon HB.out hs)
          have HR := hD (HR.out.below hs)
          clear hs
          cases hq : opOkF k (refKey [a, b]) (refOld k [a, b]) (refNew k [a, b]) with
          | false =>
           obtain rfl := hno hq
           have HK : Hid (kindOk k s.data.toList = false) := hD (by rw [ref_kind_all hk1 hk6 HCut.out, hq]; rfl)
           clear hq hyes hno
           have HNo : Hid (∀ j, 1 ≤ j → j < k + 1 → kindOk j s.data.toList = false) := hD (fun j h1 h2 => by
            rcases Nat.lt_or_ge j k with h3 | h3
            · exact HJ.out j h1 h3
            · obtain rfl : j = k := by omega
              exact HK.out)
           go_wp2_with fail
           go_roundw
           case rel => exact ⟨k + 1, by go_num, by omega, by omega, HNo.out, HX2.out, HR.out, HB.out⟩
           case measure => simp [intOf]; omega
          | true =>
           obtain rfl := hyes hq
           clear hno hyes
           cases ht : (opText k (refKey [a, b]) (refOld k [a, b]) (refNew k [a, b]) == s.data.toList) with
           | false =>
            have HK : Hid (kindOk k s.data.toList = false) := hD (by rw [ref_kind_all hk1 hk6 HCut.out, ht]; simp)
            have t1 : (opText k (refKey [a, b]) (refOld k [a, b]) (refNew k [a, b]) == s.toList) = false := by rw [Lib.toList_data]; exact ht
            clear ht hq
            have HNo : Hid (∀ j, 1 ≤ j → j < k + 1 → kindOk j s.data.toList = false) := hD (fun j h1 h2 => by
             rcases Nat.lt_or_ge j k with h3 | h3
             · exact HJ.out j h1 h3
             · obtain rfl : j = k := by omega
               exact HK.out)
            go_wp2_with fail
            go_roundw
            case rel => exact ⟨k + 1, by go_num, by omega, by omega, HNo.out, HX2.out, HR.out, HB.out⟩
            case measure => simp [intOf]; omega
           | true =>
            have HK : Hid (opOk s.data.toList = true) := hD (opOk_of hk1 hk6 (by rw [ref_kind_all hk1 hk6 HCut.out, ht, hq]; rfl))
            have t1 : (opText k (refKey [a, b]) (refOld k [a, b]) (refNew k [a, b]) == s.toList) = true := by rw [Lib.toList_data]; exact ht
            clear ht hq
            have HR2 := hD (HX2.out.sets [.int .i64 (k : Int), .string ⟨(refKey [a, b]).toArray⟩, .string ⟨(refOld k [a, b]).toArray⟩, .string ⟨(refNew k [a, b]).toArray⟩] rfl)
            have HB3 := hD (below_gr HB.out (grown_vs (b := b2) [.int .i64 (k : Int), .string ⟨(refKey [a, b]).toArray⟩, .string ⟨(refOld k [a, b]).toArray⟩, .string ⟨(refNew k [a, b]).toArray⟩]) HB2.out)
            go_wp2_with (first
             | (refine wpList_load_mid rfl 124 _ rfl b6 0 rfl [.int .i64 (k : Int), .string ⟨(refKey [a, b]).toArray⟩, .string ⟨(refOld k [a, b]).toArray⟩, .string ⟨(refNew k [a, b]).toArray⟩] _ HX6.out.range Tryz.underlying124 rfl infoOpT ?_)
             | (refine wpList_store_mid rfl 124 _ _ rfl b2 0 #[.int .i64 (k : Int), .string ⟨(refKey [a, b]).toArray⟩, .string ⟨(refOld k [a, b]).toArray⟩, .string ⟨(refNew k [a, b]).toArray⟩] rfl rfl ?_ infoOpT (op4_one _ _ _ _) ?_; · exact HX2.out.there rfl))
            refine bodyPost_ret (v := .tuple #[.agg #[.int .i64 (k : Int), .string ⟨(refKey [a, b]).toArray⟩, .string ⟨(refOld k [a, b]).toArray⟩, .string ⟨(refNew k [a, b]).toArray⟩], .int .i64 0]) ?_ rfl (ret_par (ok := opOk s.data.toList) (by rw [HK.out]; rfl) HB3.out)
            exact results_mid_slot Tryz.results103 _ _ b2 [.int .i64 (k : Int), .string ⟨(refKey [a, b]).toArray⟩, .string ⟨(refOld k [a, b]).toArray⟩, .string ⟨(refNew k [a, b]).toArray⟩] _ _ rfl rfl HR2.out.range Tryz.underlying124 rfl infoOpT
        · have w1 := hcell 1 _ rfl
          have w2 := hcell 2 _ rfl
          have w3 := hcell 3 _ rfl
          have hmm : 4 ≤ m := by have h := HM.out; simp at h; omega
          have m1 : (1 : Int) < (m : Int) := by omega
          have e1 : 1 < m := by omega
          have m2 : (2 : Int) < (m : Int) := by omega
          have e2 : 2 < m := by omega
          have m3 : (3 : Int) < (m : Int) := by omega
          have e3 : 3 < m := by omega
          clear hmm
          have HF6 := hD (Vr.new v1 [.int .i64 (k : Int), .string ⟨a.toArray⟩, .string ⟨b.toArray⟩, .string ⟨c.toArray⟩] 124)
          have HBg := hD (below_new v1 (.cells #[.int .i64 (k : Int), .string ⟨a.toArray⟩, .string ⟨b.toArray⟩, .string ⟨c.toArray⟩] 124))
          have hl1 : v1.heap.size < (v1.alloc (.cells #[.int .i64 (k : Int), .string ⟨#[]⟩, .string ⟨#[]⟩, .string ⟨#[]⟩] 124)).heap.size := by simp
          go_upto_region 15 with fail
          change Code.wp _ _ _ _ (v1.alloc (.cells #[.int .i64 (k : Int), .string ⟨a.toArray⟩, .string ⟨b.toArray⟩, .string ⟨c.toArray⟩] 124))
          clear hl1 m1 m2 m3 e1 e2 e3 w1 w2 w3
          have HX2 := hD (HX2.out.below HBg.out)
          have HR := hD (HR.out.below HBg.out)
          have HB := hD (bon HB.out HBg.out)
          have HX6 : Hid (Vr (v1.alloc (.cells #[.int .i64 (k : Int), .string ⟨a.toArray⟩, .string ⟨b.toArray⟩, .string ⟨c.toArray⟩] 124)) v1.heap.size [.int .i64 (k : Int), .string ⟨(refKey (a :: b :: c :: t)).toArray⟩, .string ⟨(refOld k (a :: b :: c :: t)).toArray⟩, .string ⟨(refNew k (a :: b :: c :: t)).toArray⟩]) := hD (HF6.out.eq (by have h5 := HK5.out; subst h5; rfl))
          have HSz : Hid ((refKey (a :: b :: c :: t)).length + (refOld k (a :: b :: c :: t)).length + (refNew k (a :: b :: c :: t)).length ≤ 1048576) := hD (ref_sizes HCut.out HLen.out hss)
          clear HF6 HBg
          generalize (v1.alloc (.cells #[.int .i64 (k : Int), .string ⟨a.toArray⟩, .string ⟨b.toArray⟩, .string ⟨c.toArray⟩] 124)) = wv at HX2 HR HB HX6 ⊢
          generalize v1.heap.size = b6 at HX6 ⊢
          have HFm := hD (refFormat_any k hk1 hk6 (refKey (a :: b :: c :: t)) (refOld k (a :: b :: c :: t)) (refNew k (a :: b :: c :: t)) wv HSz.out)
          go_wp2_with (refine wpList_load_mid rfl 124 _ rfl b6 0 rfl [.int .i64 (k : Int), .string ⟨(refKey (a :: b :: c :: t)).toArray⟩, .string ⟨(refOld k (a :: b :: c :: t)).toArray⟩, .string ⟨(refNew k (a :: b :: c :: t)).toArray⟩] _ HX6.out.range Tryz.underlying124 rfl infoOpT ?_)
          refine HFm.out.mono ?_
          rintro e w8 ⟨hyes, hno, hs⟩
          have HX6 := hD (HX6.out.below hs)
          have HX2 := hD (HX2.out.below hs)
          have HB := hD (bon HB.out hs)
          have HR := hD (HR.out.below hs)
          clear hs
          cases hq : opOkF k (refKey (a :: b :: c :: t)) (refOld k (a :: b :: c :: t)) (refNew k (a :: b :: c :: t)) with
          | false =>
           obtain rfl := hno hq
           have HK : Hid (kindOk k s.data.toList = false) := hD (by rw [ref_kind_all hk1 hk6 HCut.out, hq]; rfl)
           clear hq hyes hno
           have HNo : Hid (∀ j, 1 ≤ j → j < k + 1 → kindOk j s.data.toList = false) := hD (fun j h1 h2 => by
            rcases Nat.lt_or_ge j k with h3 | h3
            · exact HJ.out j h1 h3
            · obtain rfl : j = k := by omega
              exact HK.out)
           go_wp2_with fail
           go_roundw
           case rel => exact ⟨k + 1, by go_num, by omega, by omega, HNo.out, HX2.out, HR.out, HB.out⟩
           case measure => simp [intOf]; omega
          | true =>
           obtain rfl := hyes hq
           clear hno hyes
           cases ht : (opText k (refKey (a :: b :: c :: t)) (refOld k (a :: b :: c :: t)) (refNew k (a :: b :: c :: t)) == s.data.toList) with
           | false =>
            have HK : Hid (kindOk k s.data.toList = false) := hD (by rw [ref_kind_all hk1 hk6 HCut.out, ht]; simp)
            have t1 : (opText k (refKey (a :: b :: c :: t)) (refOld k (a :: b :: c :: t)) (refNew k (a :: b :: c :: t)) == s.toList) = false := by rw [Lib.toList_data]; exact ht
            clear ht hq
            have HNo : Hid (∀ j, 1 ≤ j → j < k + 1 → kindOk j s.data.toList = false) := hD (fun j h1 h2 => by
             rcases Nat.lt_or_ge j k with h3 | h3
             · exact HJ.out j h1 h3
             · obtain rfl : j = k := by omega
               exact HK.out)
            go_wp2_with fail
            go_roundw
            case rel => exact ⟨k + 1, by go_num, by omega, by omega, HNo.out, HX2.out, HR.out, HB.out⟩
            case measure => simp [intOf]; omega
           | true =>
            have HK : Hid (opOk s.data.toList = true) := hD (opOk_of hk1 hk6 (by rw [ref_kind_all hk1 hk6 HCut.out, ht, hq]; rfl))
            have t1 : (opText k (refKey (a :: b :: c :: t)) (refOld k (a :: b :: c :: t)) (refNew k (a :: b :: c :: t)) == s.toList) = true := by rw [Lib.toList_data]; exact ht
            clear ht hq
            have HR2 := hD (HX2.out.sets [.int .i64 (k : Int), .string ⟨(refKey (a :: b :: c :: t)).toArray⟩, .string ⟨(refOld k (a :: b :: c :: t)).toArray⟩, .string ⟨(refNew k (a :: b :: c :: t)).toArray⟩] rfl)
            have HB3 := hD (below_gr HB.out (grown_vs (b := b2) [.int .i64 (k : Int), .string ⟨(refKey (a :: b :: c :: t)).toArray⟩, .string ⟨(refOld k (a :: b :: c :: t)).toArray⟩, .string ⟨(refNew k (a :: b :: c :: t)).toArray⟩]) HB2.out)
            go_wp2_with (first
             | (refine wpList_load_mid rfl 124 _ rfl b6 0 rfl [.int .i64 (k : Int), .string ⟨(refKey (a :: b :: c :: t)).toArray⟩, .string ⟨(refOld k (a :: b :: c :: t)).toArray⟩, .string ⟨(refNew k (a :: b :: c :: t)).toArray⟩] _ HX6.out.range Tryz.underlying124 rfl infoOpT ?_)
             | (refine wpList_store_mid rfl 124 _ _ rfl b2 0 #[.int .i64 (k : Int), .string ⟨(refKey (a :: b :: c :: t)).toArray⟩, .string ⟨(refOld k (a :: b :: c :: t)).toArray⟩, .string ⟨(refNew k (a :: b :: c :: t)).toArray⟩] rfl rfl ?_ infoOpT (op4_one _ _ _ _) ?_; · exact HX2.out.there rfl))
            refine bodyPost_ret (v := .tuple #[.agg #[.int .i64 (k : Int), .string ⟨(refKey (a :: b :: c :: t)).toArray⟩, .string ⟨(refOld k (a :: b :: c :: t)).toArray⟩, .string ⟨(refNew k (a :: b :: c :: t)).toArray⟩], .int .i64 0]) ?_ rfl (ret_par (ok := opOk s.data.toList) (by rw [HK.out]; rfl) HB3.out)
            exact results_mid_slot Tryz.results103 _ _ b2 [.int .i64 (k : Int), .string ⟨(refKey (a :: b :: c :: t)).toArray⟩, .string ⟨(refOld k (a :: b :: c :: t)).toArray⟩, .string ⟨(refNew k (a :: b :: c :: t)).toArray⟩] _ _ rfl rfl HR2.out.range Tryz.underlying124 rfl infoOpT
      · have k5 : ((k : Int) == 5) = false := by simp; omega
        have k5n : ((k : Int) != 5) = true := by simp; omega
        have HK5 := hD hk5
        clear hk5
        rcases r with _ | ⟨a, _ | ⟨b, _ | ⟨c, t⟩⟩⟩
        · have hmm : m = 1 := by have h := HM.out; simp at h; omega
          have m1 : ¬ ((1 : Int) < (m : Int)) := by omega
          have e1 : ¬ (1 < m) := by omega
          have m2 : ¬ ((2 : Int) < (m : Int)) := by omega
          have e2 : ¬ (2 < m) := by omega
          have m3 : ¬ ((3 : Int) < (m : Int)) := by omega
          have e3 : ¬ (3 < m) := by omega
          clear hmm
          have HF6 := hD (Vr.new v1 [.int .i64 (k : Int), .string ⟨#[]⟩, .string ⟨#[]⟩, .string ⟨#[]⟩] 124)
          have HBg := hD (below_new v1 (.cells #[.int .i64 (k : Int), .string ⟨#[]⟩, .string ⟨#[]⟩, .string ⟨#[]⟩] 124))
          have hl1 : v1.heap.size < (v1.alloc (.cells #[.int .i64 (k : Int), .string ⟨#[]⟩, .string ⟨#[]⟩, .string ⟨#[]⟩] 124)).heap.size := by simp
          go_upto_region 15 with fail
          change Code.wp _ _ _ _ (v1.alloc (.cells #[.int .i64 (k : Int), .string ⟨#[]⟩, .string ⟨#[]⟩, .string ⟨#[]⟩] 124))
          clear hl1 m1 m2 m3 e1 e2 e3 
          have HX2 := hD (HX2.out.below HBg.out)
          have HR := hD (HR.out.below HBg.out)
          have HB := hD (bon HB.out HBg.out)
          have HX6 : Hid (Vr (v1.alloc (.cells #[.int .i64 (k : Int), .string ⟨#[]⟩, .string ⟨#[]⟩, .string ⟨#[]⟩] 124)) v1.heap.size [.int .i64 (k : Int), .string ⟨(refKey []).toArray⟩, .string ⟨(refOld k []).toArray⟩, .string ⟨(refNew k []).toArray⟩]) := hD (HF6.out.eq (by have h5 := HK5.out; simp [refKey, refOld, refNew, h5]))
          have HSz : Hid ((refKey []).length + (refOld k []).length + (refNew k []).length ≤ 1048576) := hD (ref_sizes HCut.out HLen.out hss)
          clear HF6 HBg
          generalize (v1.alloc (.cells #[.int .i64 (k : Int), .string ⟨#[]⟩, .string ⟨#[]⟩, .string ⟨#[]⟩] 124)) = wv at HX2 HR HB HX6 ⊢
          generalize v1.heap.size = b6 at HX6 ⊢
          have HFm := hD (refFormat_any k hk1 hk6 (refKey []) (refOld k []) (refNew k []) wv HSz.out)
          go_wp2_with (refine wpList_load_mid rfl 124 _ rfl b6 0 rfl [.int .i64 (k : Int), .string ⟨(refKey []).toArray⟩, .string ⟨(refOld k []).toArray⟩, .string ⟨(refNew k []).toArray⟩] _ HX6.out.range Tryz.underlying124 rfl infoOpT ?_)
          refine HFm.out.mono ?_
          rintro e w8 ⟨hyes, hno, hs⟩
          have HX6 := hD (HX6.out.below hs)
          have HX2 := hD (HX2.out.below hs)
          have HB := hD (bon HB.out hs)
          have HR := hD (HR.out.below hs)
          clear hs
          cases hq : opOkF k (refKey []) (refOld k []) (refNew k []) with
          | false =>
           obtain rfl := hno hq
           have HK : Hid (kindOk k s.data.toList = false) := hD (by rw [ref_kind_all hk1 hk6 HCut.out, hq]; rfl)
           clear hq hyes hno
           have HNo : Hid (∀ j, 1 ≤ j → j < k + 1 → kindOk j s.data.toList = false) := hD (fun j h1 h2 => by
            rcases Nat.lt_or_ge j k with h3 | h3
            · exact HJ.out j h1 h3
            · obtain rfl : j = k := by omega
              exact HK.out)
           go_wp2_with fail
           go_roundw
           case rel => exact ⟨k + 1, by go_num, by omega, by omega, HNo.out, HX2.out, HR.out, HB.out⟩
           case measure => simp [intOf]; omega
          | true =>
           obtain rfl := hyes hq
           clear hno hyes
           cases ht : (opText k (refKey []) (refOld k []) (refNew k []) == s.data.toList) with
           | false =>
            have HK : Hid (kindOk k s.data.toList = false) := hD (by rw [ref_kind_all hk1 hk6 HCut.out, ht]; simp)
            have t1 : (opText k (refKey []) (refOld k []) (refNew k []) == s.toList) = false := by rw [Lib.toList_data]; exact ht
            clear ht hq
            have HNo : Hid (∀ j, 1 ≤ j → j < k + 1 → kindOk j s.data.toList = false) := hD (fun j h1 h2 => by
             rcases Nat.lt_or_ge j k with h3 | h3
             · exact HJ.out j h1 h3
             · obtain rfl : j = k := by omega
               exact HK.out)
            go_wp2_with fail
            go_roundw
            case rel => exact ⟨k + 1, by go_num, by omega, by omega, HNo.out, HX2.out, HR.out, HB.out⟩
            case measure => simp [intOf]; omega
           | true =>
            have HK : Hid (opOk s.data.toList = true) := hD (opOk_of hk1 hk6 (by rw [ref_kind_all hk1 hk6 HCut.out, ht, hq]; rfl))
            have t1 : (opText k (refKey []) (refOld k []) (refNew k []) == s.toList) = true := by rw [Lib.toList_data]; exact ht
            clear ht hq
            have HR2 := hD (HX2.out.sets [.int .i64 (k : Int), .string ⟨(refKey []).toArray⟩, .string ⟨(refOld k []).toArray⟩, .string ⟨(refNew k []).toArray⟩] rfl)
            have HB3 := hD (below_gr HB.out (grown_vs (b := b2) [.int .i64 (k : Int), .string ⟨(refKey []).toArray⟩, .string ⟨(refOld k []).toArray⟩, .string ⟨(refNew k []).toArray⟩]) HB2.out)
            go_wp2_with (first
             | (refine wpList_load_mid rfl 124 _ rfl b6 0 rfl [.int .i64 (k : Int), .string ⟨(refKey []).toArray⟩, .string ⟨(refOld k []).toArray⟩, .string ⟨(refNew k []).toArray⟩] _ HX6.out.range Tryz.underlying124 rfl infoOpT ?_)
             | (refine wpList_store_mid rfl 124 _ _ rfl b2 0 #[.int .i64 (k : Int), .string ⟨(refKey []).toArray⟩, .string ⟨(refOld k []).toArray⟩, .string ⟨(refNew k []).toArray⟩] rfl rfl ?_ infoOpT (op4_one _ _ _ _) ?_; · exact HX2.out.there rfl))
            refine bodyPost_ret (v := .tuple #[.agg #[.int .i64 (k : Int), .string ⟨(refKey []).toArray⟩, .string ⟨(refOld k []).toArray⟩, .string ⟨(refNew k []).toArray⟩], .int .i64 0]) ?_ rfl (ret_par (ok := opOk s.data.toList) (by rw [HK.out]; rfl) HB3.out)
            exact results_mid_slot Tryz.results103 _ _ b2 [.int .i64 (k : Int), .string ⟨(refKey []).toArray⟩, .string ⟨(refOld k []).toArray⟩, .string ⟨(refNew k []).toArray⟩] _ _ rfl rfl HR2.out.range Tryz.underlying124 rfl infoOpT
        · have w1 := hcell 1 _ rfl
          have hmm : m = 2 := by have h := HM.out; simp at h; omega
          have m1 : (1 : Int) < (m : Int) := by omega
          have e1 : 1 < m := by omega
          have m2 : ¬ ((2 : Int) < (m : Int)) := by omega
          have e2 : ¬ (2 < m) := by omega
          have m3 : ¬ ((3 : Int) < (m : Int)) := by omega
          have e3 : ¬ (3 < m) := by omega
          clear hmm
          have HF6 := hD (Vr.new v1 [.int .i64 (k : Int), .string ⟨a.toArray⟩, .string ⟨#[]⟩, .string ⟨#[]⟩] 124)
          have HBg := hD (below_new v1 (.cells #[.int .i64 (k : Int), .string ⟨a.toArray⟩, .string ⟨#[]⟩, .string ⟨#[]⟩] 124))
          have hl1 : v1.heap.size < (v1.alloc (.cells #[.int .i64 (k : Int), .string ⟨#[]⟩, .string ⟨#[]⟩, .string ⟨#[]⟩] 124)).heap.size := by simp
          go_upto_region 15 with fail
          change Code.wp _ _ _ _ (v1.alloc (.cells #[.int .i64 (k : Int), .string ⟨a.toArray⟩, .string ⟨#[]⟩, .string ⟨#[]⟩] 124))
          clear hl1 m1 m2 m3 e1 e2 e3 w1
          have HX2 := hD (HX2.out.below HBg.out)
          have HR := hD (HR.out.below HBg.out)
          have HB := hD (bon HB.out HBg.out)
          have HX6 : Hid (Vr (v1.alloc (.cells #[.int .i64 (k : Int), .string ⟨a.toArray⟩, .string ⟨#[]⟩, .string ⟨#[]⟩] 124)) v1.heap.size [.int .i64 (k : Int), .string ⟨(refKey [a]).toArray⟩, .string ⟨(refOld k [a]).toArray⟩, .string ⟨(refNew k [a]).toArray⟩]) := hD (HF6.out.eq (by have h5 := HK5.out; simp [refKey, refOld, refNew, h5]))
          have HSz : Hid ((refKey [a]).length + (refOld k [a]).length + (refNew k [a]).length ≤ 1048576) := hD (ref_sizes HCut.out HLen.out hss)
          clear HF6 HBg
          generalize (v1.alloc (.cells #[.int .i64 (k : Int), .string ⟨a.toArray⟩, .string ⟨#[]⟩, .string ⟨#[]⟩] 124)) = wv at HX2 HR HB HX6 ⊢
          generalize v1.heap.size = b6 at HX6 ⊢
          have HFm := hD (refFormat_any k hk1 hk6 (refKey [a]) (refOld k [a]) (refNew k [a]) wv HSz.out)
          go_wp2_with (refine wpList_load_mid rfl 124 _ rfl b6 0 rfl [.int .i64 (k : Int), .string ⟨(refKey [a]).toArray⟩, .string ⟨(refOld k [a]).toArray⟩, .string ⟨(refNew k [a]).toArray⟩] _ HX6.out.range Tryz.underlying124 rfl infoOpT ?_)
          refine HFm.out.mono ?_
          rintro e w8 ⟨hyes, hno, hs⟩
          have HX6 := hD (HX6.out.below hs)
          have HX2 := hD (HX2.out.below hs)
          have HB := hD (bon HB.out hs)
          have HR := hD (HR.out.below hs)
          clear hs
          cases hq : opOkF k (refKey [a]) (refOld k [a]) (refNew k [a]) with
          | false =>
           obtain rfl := hno hq
           have HK : Hid (kindOk k s.data.toList = false) := hD (by rw [ref_kind_all hk1 hk6 HCut.out, hq]; rfl)
           clear hq hyes hno
           have HNo : Hid (∀ j, 1 ≤ j → j < k + 1 → kindOk j s.data.toList = false) := hD (fun j h1 h2 => by
            rcases Nat.lt_or_ge j k with h3 | h3
            · exact HJ.out j h1 h3
            · obtain rfl : j = k := by omega
              exact HK.out)
           go_wp2_with fail
           go_roundw
           case rel => exact ⟨k + 1, by go_num, by omega, by omega, HNo.out, HX2.out, HR.out, HB.out⟩
           case measure => simp [intOf]; omega
          | true =>
           obtain rfl := hyes hq
           clear hno hyes
           cases ht : (opText k (refKey [a]) (refOld k [a]) (refNew k [a]) == s.data.toList) with
           | false =>
            have HK : Hid (kindOk k s.data.toList = false) := hD (by rw [ref_kind_all hk1 hk6 HCut.out, ht]; simp)
            have t1 : (opText k (refKey [a]) (refOld k [a]) (refNew k [a]) == s.toList) = false := by rw [Lib.toList_data]; exact ht
            clear ht hq
            have HNo : Hid (∀ j, 1 ≤ j → j < k + 1 → kindOk j s.data.toList = false) := hD (fun j h1 h2 => by
             rcases Nat.lt_or_ge j k with h3 | h3
             · exact HJ.out j h1 h3
             · obtain rfl : j = k := by omega
               exact HK.out)
            go_wp2_with fail
            go_roundw
            case rel => exact ⟨k + 1, by go_num, by omega, by omega, HNo.out, HX2.out, HR.out, HB.out⟩
            case measure => simp [intOf]; omega
           | true =>
            have HK : Hid (opOk s.data.toList = true) := hD (opOk_of hk1 hk6 (by rw [ref_kind_all hk1 hk6 HCut.out, ht, hq]; rfl))
            have t1 : (opText k (refKey [a]) (refOld k [a]) (refNew k [a]) == s.toList) = true := by rw [Lib.toList_data]; exact ht
            clear ht hq
            have HR2 := hD (HX2.out.sets [.int .i64 (k : Int), .string ⟨(refKey [a]).toArray⟩, .string ⟨(refOld k [a]).toArray⟩, .string ⟨(refNew k [a]).toArray⟩] rfl)
            have HB3 := hD (below_gr HB.out (grown_vs (b := b2) [.int .i64 (k : Int), .string ⟨(refKey [a]).toArray⟩, .string ⟨(refOld k [a]).toArray⟩, .string ⟨(refNew k [a]).toArray⟩]) HB2.out)
            go_wp2_with (first
             | (refine wpList_load_mid rfl 124 _ rfl b6 0 rfl [.int .i64 (k : Int), .string ⟨(refKey [a]).toArray⟩, .string ⟨(refOld k [a]).toArray⟩, .string ⟨(refNew k [a]).toArray⟩] _ HX6.out.range Tryz.underlying124 rfl infoOpT ?_)
             | (refine wpList_store_mid rfl 124 _ _ rfl b2 0 #[.int .i64 (k : Int), .string ⟨(refKey [a]).toArray⟩, .string ⟨(refOld k [a]).toArray⟩, .string ⟨(refNew k [a]).toArray⟩] rfl rfl ?_ infoOpT (op4_one _ _ _ _) ?_; · exact HX2.out.there rfl))
            refine bodyPost_ret (v := .tuple #[.agg #[.int .i64 (k : Int), .string ⟨(refKey [a]).toArray⟩, .string ⟨(refOld k [a]).toArray⟩, .string ⟨(refNew k [a]).toArray⟩], .int .i64 0]) ?_ rfl (ret_par (ok := opOk s.data.toList) (by rw [HK.out]; rfl) HB3.out)
            exact results_mid_slot Tryz.results103 _ _ b2 [.int .i64 (k : Int), .string ⟨(refKey [a]).toArray⟩, .string ⟨(refOld k [a]).toArray⟩, .string ⟨(refNew k [a]).toArray⟩] _ _ rfl rfl HR2.out.range Tryz.underlying124 rfl infoOpT
        · have w1 := hcell 1 _ rfl
          have w2 := hcell 2 _ rfl
          have hmm : m = 3 := by have h := HM.out; simp at h; omega
          have m1 : (1 : Int) < (m : Int) := by omega
          have e1 : 1 < m := by omega
          have m2 : (2 : Int) < (m : Int) := by omega
          have e2 : 2 < m := by omega
          have m3 : ¬ ((3 : Int) < (m : Int)) := by omega
          have e3 : ¬ (3 < m) := by omega
          clear hmm
          have HF6 := hD (Vr.new v1 [.int .i64 (k : Int), .string ⟨a.toArray⟩, .string ⟨#[]⟩, .string ⟨b.toArray⟩] 124)
          have HBg := hD (below_new v1 (.cells #[.int .i64 (k : Int), .string ⟨a.toArray⟩, .string ⟨#[]⟩, .string ⟨b.toArray⟩] 124))
          have hl1 : v1.heap.size < (v1.alloc (.cells #[.int .i64 (k : Int), .string ⟨#[]⟩, .string ⟨#[]⟩, .string ⟨#[]⟩] 124)).heap.size := by simp
          go_upto_region 15 with fail
          change Code.wp _ _ _ _ (v1.alloc (.cells #[.int .i64 (k : Int), .string ⟨a.toArray⟩, .string ⟨#[]⟩, .string ⟨b.toArray⟩] 124))
          clear hl1 m1 m2 m3 e1 e2 e3 w1 w2
          have HX2 := hD (HX2.out.below HBg.out)
          have HR := hD (HR.out.below HBg.out)
          have HB := hD (bon HB.out HBg.out)
          have HX6 : Hid (Vr (v1.alloc (.cells #[.int .i64 (k : Int), .string ⟨a.toArray⟩, .string ⟨#[]⟩, .string ⟨b.toArray⟩] 124)) v1.heap.size [.int .i64 (k : Int), .string ⟨(refKey [a, b]).toArray⟩, .string ⟨(refOld k [a, b]).toArray⟩, .string ⟨(refNew k [a, b]).toArray⟩]) := hD (HF6.out.eq (by have h5 := HK5.out; simp [refKey, refOld, refNew, h5]))
          have HSz : Hid ((refKey [a, b]).length + (refOld k [a, b]).length + (refNew k [a, b]).length ≤ 1048576) := hD (ref_sizes HCut.out HLen.out hss)
          clear HF6 HBg
          generalize (v1.alloc (.cells #[.int .i64 (k : Int), .string ⟨a.toArray⟩, .string ⟨#[]⟩, .string ⟨b.toArray⟩] 124)) = wv at HX2 HR HB HX6 ⊢
          generalize v1.heap.size = b6 at HX6 ⊢
          have HFm := hD (refFormat_any k hk1 hk6 (refKey [a, b]) (refOld k [a, b]) (refNew k [a, b]) wv HSz.out)
          go_wp2_with (refine wpList_load_mid rfl 124 _ rfl b6 0 rfl [.int .i64 (k : Int), .string ⟨(refKey [a, b]).toArray⟩, .string ⟨(refOld k [a, b]).toArray⟩, .string ⟨(refNew k [a, b]).toArray⟩] _ HX6.out.range Tryz.underlying124 rfl infoOpT ?_)
          refine HFm.out.mono ?_
          rintro e w8 ⟨hyes, hno, hs⟩
          have HX6 := hD (HX6.out.below hs)
          have HX2 := hD (HX2.out.below hs)
          have HB := hD (bon HB.out hs)
          have HR := hD (HR.out.below hs)
          clear hs
          cases hq : opOkF k (refKey [a, b]) (refOld k [a, b]) (refNew k [a, b]) with
          | false =>
           obtain rfl := hno hq
           have HK : Hid (kindOk k s.data.toList = false) := hD (by rw [ref_kind_all hk1 hk6 HCut.out, hq]; rfl)
           clear hq hyes hno
           have HNo : Hid (∀ j, 1 ≤ j → j < k + 1 → kindOk j s.data.toList = false) := hD (fun j h1 h2 => by
            rcases Nat.lt_or_ge j k with h3 | h3
            · exact HJ.out j h1 h3
            · obtain rfl : j = k := by omega
              exact HK.out)
           go_wp2_with fail
           go_roundw
           case rel => exact ⟨k + 1, by go_num, by omega, by omega, HNo.out, HX2.out, HR.out, HB.out⟩
           case measure => simp [intOf]; omega
          | true =>
           obtain rfl := hyes hq
           clear hno hyes
           cases ht : (opText k (refKey [a, b]) (refOld k [a, b]) (refNew k [a, b]) == s.data.toList) with
           | false =>
            have HK : Hid (kindOk k s.data.toList = false) := hD (by rw [ref_kind_all hk1 hk6 HCut.out, ht]; simp)
            have t1 : (opText k (refKey [a, b]) (refOld k [a, b]) (refNew k [a, b]) == s.toList) = false := by rw [Lib.toList_data]; exact ht
            clear ht hq
            have HNo : Hid (∀ j, 1 ≤ j → j < k + 1 → kindOk j s.data.toList = false) := hD (fun j h1 h2 => by
             rcases Nat.lt_or_ge j k with h3 | h3
             · exact HJ.out j h1 h3
             · obtain rfl : j = k := by omega
               exact HK.out)
            go_wp2_with fail
            go_roundw
            case rel => exact ⟨k + 1, by go_num, by omega, by omega, HNo.out, HX2.out, HR.out, HB.out⟩
            case measure => simp [intOf]; omega
           | true =>
            have HK : Hid (opOk s.data.toList = true) := hD (opOk_of hk1 hk6 (by rw [ref_kind_all hk1 hk6 HCut.out, ht, hq]; rfl))
            have t1 : (opText k (refKey [a, b]) (refOld k [a, b]) (refNew k [a, b]) == s.toList) = true := by rw [Lib.toList_data]; exact ht
            clear ht hq
            have HR2 := hD (HX2.out.sets [.int .i64 (k : Int), .string ⟨(refKey [a, b]).toArray⟩, .string ⟨(refOld k [a, b]).toArray⟩, .string ⟨(refNew k [a, b]).toArray⟩] rfl)
            have HB3 := hD (below_gr HB.out (grown_vs (b := b2) [.int .i64 (k : Int), .string ⟨(refKey [a, b]).toArray⟩, .string ⟨(refOld k [a, b]).toArray⟩, .string ⟨(refNew k [a, b]).toArray⟩]) HB2.out)
            go_wp2_with (first
             | (refine wpList_load_mid rfl 124 _ rfl b6 0 rfl [.int .i64 (k : Int), .string ⟨(refKey [a, b]).toArray⟩, .string ⟨(refOld k [a, b]).toArray⟩, .string ⟨(refNew k [a, b]).toArray⟩] _ HX6.out.range Tryz.underlying124 rfl infoOpT ?_)
             | (refine wpList_store_mid rfl 124 _ _ rfl b2 0 #[.int .i64 (k : Int), .string ⟨(refKey [a, b]).toArray⟩, .string ⟨(refOld k [a, b]).toArray⟩, .string ⟨(refNew k [a, b]).toArray⟩] rfl rfl ?_ infoOpT (op4_one _ _ _ _) ?_; · exact HX2.out.there rfl))
            refine bodyPost_ret (v := .tuple #[.agg #[.int .i64 (k : Int), .string ⟨(refKey [a, b]).toArray⟩, .string ⟨(refOld k [a, b]).toArray⟩, .string ⟨(refNew k [a, b]).toArray⟩], .int .i64 0]) ?_ rfl (ret_par (ok := opOk s.data.toList) (by rw [HK.out]; rfl) HB3.out)
            exact results_mid_slot Tryz.results103 _ _ b2 [.int .i64 (k : Int), .string ⟨(refKey [a, b]).toArray⟩, .string ⟨(refOld k [a, b]).toArray⟩, .string ⟨(refNew k [a, b]).toArray⟩] _ _ rfl rfl HR2.out.range Tryz.underlying124 rfl infoOpT
        · have w1 := hcell 1 _ rfl
          have w2 := hcell 2 _ rfl
          have w3 := hcell 3 _ rfl
          have hmm : 4 ≤ m := by have h := HM.out; simp at h; omega
          have m1 : (1 : Int) < (m : Int) := by omega
          have e1 : 1 < m := by omega
          have m2 : (2 : Int) < (m : Int) := by omega
          have e2 : 2 < m := by omega
          have m3 : (3 : Int) < (m : Int) := by omega
          have e3 : 3 < m := by omega
          clear hmm
          have HF6 := hD (Vr.new v1 [.int .i64 (k : Int), .string ⟨a.toArray⟩, .string ⟨#[]⟩, .string ⟨b.toArray⟩] 124)
          have HBg := hD (below_new v1 (.cells #[.int .i64 (k : Int), .string ⟨a.toArray⟩, .string ⟨#[]⟩, .string ⟨b.toArray⟩] 124))
          have hl1 : v1.heap.size < (v1.alloc (.cells #[.int .i64 (k : Int), .string ⟨#[]⟩, .string ⟨#[]⟩, .string ⟨#[]⟩] 124)).heap.size := by simp
          go_upto_region 15 with fail
          change Code.wp _ _ _ _ (v1.alloc (.cells #[.int .i64 (k : Int), .string ⟨a.toArray⟩, .string ⟨#[]⟩, .string ⟨b.toArray⟩] 124))
          clear hl1 m1 m2 m3 e1 e2 e3 w1 w2 w3
          have HX2 := hD (HX2.out.below HBg.out)
          have HR := hD (HR.out.below HBg.out)
          have HB := hD (bon HB.out HBg.out)
          have HX6 : Hid (Vr (v1.alloc (.cells #[.int .i64 (k : Int), .string ⟨a.toArray⟩, .string ⟨#[]⟩, .string ⟨b.toArray⟩] 124)) v1.heap.size [.int .i64 (k : Int), .string ⟨(refKey (a :: b :: c :: t)).toArray⟩, .string ⟨(refOld k (a :: b :: c :: t)).toArray⟩, .string ⟨(refNew k (a :: b :: c :: t)).toArray⟩]) := hD (HF6.out.eq (by have h5 := HK5.out; simp [refKey, refOld, refNew, h5]))
          have HSz : Hid ((refKey (a :: b :: c :: t)).length + (refOld k (a :: b :: c :: t)).length + (refNew k (a :: b :: c :: t)).length ≤ 1048576) := hD (ref_sizes HCut.out HLen.out hss)
          clear HF6 HBg
          generalize (v1.alloc (.cells #[.int .i64 (k : Int), .string ⟨a.toArray⟩, .string ⟨#[]⟩, .string ⟨b.toArray⟩] 124)) = wv at HX2 HR HB HX6 ⊢
          generalize v1.heap.size = b6 at HX6 ⊢
          have HFm := hD (refFormat_any k hk1 hk6 (refKey (a :: b :: c :: t)) (refOld k (a :: b :: c :: t)) (refNew k (a :: b :: c :: t)) wv HSz.out)
          go_wp2_with (refine wpList_load_mid rfl 124 _ rfl b6 0 rfl [.int .i64 (k : Int), .string ⟨(refKey (a :: b :: c :: t)).toArray⟩, .string ⟨(refOld k (a :: b :: c :: t)).toArray⟩, .string ⟨(refNew k (a :: b :: c :: t)).toArray⟩] _ HX6.out.range Tryz.underlying124 rfl infoOpT ?_)
          refine HFm.out.mono ?_
          rintro e w8 ⟨hyes, hno, hs⟩
          have HX6 := hD (HX6.out.below hs)
          have HX2 := hD (HX2.out.below hs)
          have HB := hD (bon HB.out hs)
          have HR := hD (HR.out.below hs)
          clear hs
          cases hq : opOkF k (refKey (a :: b :: c :: t)) (refOld k (a :: b :: c :: t)) (refNew k (a :: b :: c :: t)) with
          | false =>
           obtain rfl := hno hq
           have HK : Hid (kindOk k s.data.toList = false) := hD (by rw [ref_kind_all hk1 hk6 HCut.out, hq]; rfl)
           clear hq hyes hno
           have HNo : Hid (∀ j, 1 ≤ j → j < k + 1 → kindOk j s.data.toList = false) := hD (fun j h1 h2 => by
            rcases Nat.lt_or_ge j k with h3 | h3
            · exact HJ.out j h1 h3
            · obtain rfl : j = k := by omega
              exact HK.out)
           go_wp2_with fail
           go_roundw
           case rel => exact ⟨k + 1, by go_num, by omega, by omega, HNo.out, HX2.out, HR.out, HB.out⟩
           case measure => simp [intOf]; omega
          | true =>
           obtain rfl := hyes hq
           clear hno hyes
           cases ht : (opText k (refKey (a :: b :: c :: t)) (refOld k (a :: b :: c :: t)) (refNew k (a :: b :: c :: t)) == s.data.toList) with
           | false =>
            have HK : Hid (kindOk k s.data.toList = false) := hD (by rw [ref_kind_all hk1 hk6 HCut.out, ht]; simp)
            have t1 : (opText k (refKey (a :: b :: c :: t)) (refOld k (a :: b :: c :: t)) (refNew k (a :: b :: c :: t)) == s.toList) = false := by rw [Lib.toList_data]; exact ht
            clear ht hq
            have HNo : Hid (∀ j, 1 ≤ j → j < k + 1 → kindOk j s.data.toList = false) := hD (fun j h1 h2 => by
             rcases Nat.lt_or_ge j k with h3 | h3
             · exact HJ.out j h1 h3
             · obtain rfl : j = k := by omega
               exact HK.out)
            go_wp2_with fail
            go_roundw
            case rel => exact ⟨k + 1, by go_num, by omega, by omega, HNo.out, HX2.out, HR.out, HB.out⟩
            case measure => simp [intOf]; omega
           | true =>
            have HK : Hid (opOk s.data.toList = true) := hD (opOk_of hk1 hk6 (by rw [ref_kind_all hk1 hk6 HCut.out, ht, hq]; rfl))
            have t1 : (opText k (refKey (a :: b :: c :: t)) (refOld k (a :: b :: c :: t)) (refNew k (a :: b :: c :: t)) == s.toList) = true := by rw [Lib.toList_data]; exact ht
            clear ht hq
            have HR2 := hD (HX2.out.sets [.int .i64 (k : Int), .string ⟨(refKey (a :: b :: c :: t)).toArray⟩, .string ⟨(refOld k (a :: b :: c :: t)).toArray⟩, .string ⟨(refNew k (a :: b :: c :: t)).toArray⟩] rfl)
            have HB3 := hD (below_gr HB.out (grown_vs (b := b2) [.int .i64 (k : Int), .string ⟨(refKey (a :: b :: c :: t)).toArray⟩, .string ⟨(refOld k (a :: b :: c :: t)).toArray⟩, .string ⟨(refNew k (a :: b :: c :: t)).toArray⟩]) HB2.out)
            go_wp2_with (first
             | (refine wpList_load_mid rfl 124 _ rfl b6 0 rfl [.int .i64 (k : Int), .string ⟨(refKey (a :: b :: c :: t)).toArray⟩, .string ⟨(refOld k (a :: b :: c :: t)).toArray⟩, .string ⟨(refNew k (a :: b :: c :: t)).toArray⟩] _ HX6.out.range Tryz.underlying124 rfl infoOpT ?_)
             | (refine wpList_store_mid rfl 124 _ _ rfl b2 0 #[.int .i64 (k : Int), .string ⟨(refKey (a :: b :: c :: t)).toArray⟩, .string ⟨(refOld k (a :: b :: c :: t)).toArray⟩, .string ⟨(refNew k (a :: b :: c :: t)).toArray⟩] rfl rfl ?_ infoOpT (op4_one _ _ _ _) ?_; · exact HX2.out.there rfl))
            refine bodyPost_ret (v := .tuple #[.agg #[.int .i64 (k : Int), .string ⟨(refKey (a :: b :: c :: t)).toArray⟩, .string ⟨(refOld k (a :: b :: c :: t)).toArray⟩, .string ⟨(refNew k (a :: b :: c :: t)).toArray⟩], .int .i64 0]) ?_ rfl (ret_par (ok := opOk s.data.toList) (by rw [HK.out]; rfl) HB3.out)
            exact results_mid_slot Tryz.results103 _ _ b2 [.int .i64 (k : Int), .string ⟨(refKey (a :: b :: c :: t)).toArray⟩, .string ⟨(refOld k (a :: b :: c :: t)).toArray⟩, .string ⟨(refNew k (a :: b :: c :: t)).toArray⟩] _ _ rfl rfl HR2.out.range Tryz.underlying124 rfl infoOpT
    · have HK : Hid (kindOk k s.data.toList = false) := hD (kind_no HCx.out hxk)
      have hne : (x == opWord k) = false := by simpa using hxk
      have hne2 : (x != opWord k) = true := by simpa using hxk
      clear hxk
      go_wp2_with fail
      refine wp_region_noPanic ?_
      have HX2 := hD (HX2.out.below (Below.refl _ _).drew)
      have HB := hD (HB.out.drew)
      have HR := hD (HR.out.below (Below.refl _ _).drew)
      generalize hv : wr.drew = v0 at HX2 HB HR
      have hS0 : World.cell? v0 ⟨gw, ow, none⟩ = some (.string ⟨x.toArray⟩) := (HW.out _ HR.out).1
      refine wp_region_held_drew (S := fun W => World.cell? W ⟨gw, ow, none⟩ = some (.string ⟨x.toArray⟩)) (by kernel_rfl) (by rw [hv]; exact hS0) (fun hHeld => ?_)
      rw [hv] at hHeld ⊢
      clear hv
      refine tkq 0 rfl (v := ?_) (.inl ⟨by rfl, ?_⟩) (by assumption) ?_
      rotate_left
      · intro W h; (try dsimp only at h); go_simp; try with_reducible rfl
      try simp only [Act.put,qk1,qk2,qk3,qk4,qk6]
      refine tkq 1 rfl (v := ?_) (.inl ⟨by rfl, ?_⟩) (by assumption) ?_
      rotate_left
      · intro W h; (try dsimp only at h); go_simp; try with_reducible rfl
      try simp only [Act.put,qk1,qk2,qk3,qk4,qk5,qk6]
      refine tkq 2 rfl (v := ?_) (.inl ⟨by rfl, ?_⟩) (by assumption) ?_
      rotate_left
      · intro W h; (try dsimp only at h); go_simp; try with_reducible rfl
      try simp only [Act.put,qk1,qk2,qk3,qk4,qk5,qk6]
      refine tkq 3 rfl (v := ?_) (.inl ⟨by rfl, ?_⟩) (by assumption) ?_
      rotate_left
      · intro W h; (try dsimp only at h); go_simp; try with_reducible rfl
      try simp only [Act.put,qk1,qk2,qk3,qk4,qk5,qk6]
      refine tkr 4 rfl (fun K hK => ?_)
      go_simp
      go_at_call 147
      refine (refName_any k hk1 hk6 _).mono ?_
      rintro e v1 ⟨rfl, hs⟩
      have HX2 := hD (HX2.out.below hs)
      have HB := hD (bon HB.out hs)
      have HR := hD (HR.out.below hs)
      clear hs
      have hS1 : World.cell? v1 ⟨gw, ow, none⟩ = some (.string ⟨x.toArray⟩) := (HW.out _ HR.out).1
      go_wp2_with fail
      refine hK.out _ _ hS1 (fun hHeld => ?_)
      clear hK K
      try simp only [Act.put,qk1,qk2,qk3,qk4,qk5,qk6]
      refine tkq 5 rfl (v := ?_) (.inl ⟨by rfl, ?_⟩) (by assumption) ?_
      rotate_left
      · intro W h; (try dsimp only at h); go_simp; try with_reducible rfl
      try simp only [Act.put,qk1,qk2,qk3,qk4,qk5,qk6]
      refine wpAnyH_done (by kernel_rfl) ?_ _
      refine NoPanic.normal ?_
      clear hS0 hS1
      have HNo : Hid (∀ j, 1 ≤ j → j < k + 1 → kindOk j s.data.toList = false) := hD (fun j h1 h2 => by
       rcases Nat.lt_or_ge j k with h3 | h3
       · exact HJ.out j h1 h3
       · obtain rfl : j = k := by omega
         exact HK.out)
      go_wp2_with fail
      go_roundw
      case rel => exact ⟨k + 1, by go_num, by omega, by omega, HNo.out, HX2.out, HR.out, HB.out⟩
      case measure => simp [intOf]; omega
  · obtain rfl : k = 7 := by omega
    have HK : Hid (opOk s.data.toList = false) := hD (opOk_no (fun j h1 h2 => HJ.out j h1 (by omega)))
    have HR2 := hD (HX2.out.sets [.int .i64 0, .string ⟨#[]⟩, .string ⟨#[]⟩, .string ⟨#[]⟩] rfl)
    have HB3 := hD (below_gr HB.out (grown_vs (b := b2) [.int .i64 0, .string ⟨#[]⟩, .string ⟨#[]⟩, .string ⟨#[]⟩]) HB2.out)
    go_wp2_with (refine wpList_store_mid rfl 124 _ _ rfl b2 0 #[.int .i64 0, .string ⟨#[]⟩, .string ⟨#[]⟩, .string ⟨#[]⟩] rfl rfl ?_ infoOpT (op4_one _ _ _ _) ?_; · exact HX2.out.there rfl)
    refine bodyPost_ret (v := .tuple #[.agg #[.int .i64 0, .string ⟨#[]⟩, .string ⟨#[]⟩, .string ⟨#[]⟩], .int .i64 2]) ?_ rfl (ret_par (ok := opOk s.data.toList) (by rw [HK.out]; rfl) HB3.out)
    exact results_mid_slot Tryz.results103 _ _ b2 [.int .i64 0, .string ⟨#[]⟩, .string ⟨#[]⟩, .string ⟨#[]⟩] _ _ rfl rfl HR2.out.range Tryz.underlying124 rfl infoOpT
end Go.Proofs.YtepbbaifpckcpaaGreatDoor
