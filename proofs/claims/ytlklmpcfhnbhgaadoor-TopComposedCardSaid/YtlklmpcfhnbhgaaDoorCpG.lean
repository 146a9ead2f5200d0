/- The contract of expr.Dual. -/
import Derived.Test.YtlklmpcfhnbhgaaDoorCpE
namespace Go.Proofs.YtlklmpcfhnbhgaaDoor
open Go.RowKit

theorem dualN_one (n : Lg) (h : n.kind = 1) : dualN n = n := by unfold dualN; rw [if_neg (by omega)]
theorem dualN_two (n : Lg) (h : n.kind = 2) : dualN n = ⟨2, n.server, n.kids.length + 1 - n.need, n.kids⟩ := by unfold dualN; rw [if_pos h, h]
/-- behind the clones of a node's lists -/
def Cl8 (_w : World) (q : Nat) (n : Nd) (wr w8 : World) : Prop :=
  ∃ (K : Option Addr) (kc : Nat), Vr w8 q [.int .i64 (n.kind : Int), .int .i64 (n.server : Int), .int .i64 (n.need : Int), .slice none 0 0, .slice K n.kids.l.length kc] ∧
    New (q + 1) (fun W => Rd W 1 K n.kids.l.length (n.kids.l.flatMap nat1)) w8 ∧ Below wr.heap.size wr w8
theorem cl8_mk {w : World} {q : Nat} {n : Nd} {wr w3 : World} {K : Option Addr} {kc : Nat} (hn : New (q + 1) (fun W => Rd W 1 K n.kids.l.length (n.kids.l.flatMap nat1)) w3) (hb : Below wr.heap.size wr w3) (hv : Vr w3 q (ndC n)) (hq : wr.heap.size = q) :
    Cl8 w q n wr ((w3.setCell ⟨q, 3, none⟩ (.slice none 0 0)).setCell ⟨q, 4, none⟩ (.slice K n.kids.l.length kc)) :=
  ⟨K, kc, ((hv.set 3 _).set 4 _).eq rfl, (hn.set _ _ (by show q < q + 1; omega)).set _ _ (by show q < q + 1; omega), (hb.setCell (p := ⟨q, 3, none⟩) (by show wr.heap.size ≤ q; omega) _).setCell (p := ⟨q, 4, none⟩) (by show wr.heap.size ≤ q; omega) _⟩
theorem hat_of {A : Option Addr} {n c g m cap H : Nat} {w3 : World} (h : (Value.slice A n c).ownBlock = some g ∨ g = H) (hw : w3.heap.size = H) :
    (Value.slice (some ⟨g, 0, none⟩) m cap).ownBlock = (Value.slice A n c).ownBlock ∨ (Value.slice (some ⟨g, 0, none⟩) m cap).ownBlock = some w3.heap.size := by
  rcases h with h | h
  · exact .inl (by rw [h]; rfl)
  · exact .inr (by rw [hw, ← h]; rfl)
/-- the state of Dual's loop -/
structure DuSt (w : World) (g5 root : Nat) (l : List Lg) (j : Nat) (A : Option Addr) (c : Nat) (ys : List Nd) (wr : World) : Prop where
  len : ys.length = j
  lg : ys.map Nd.lg = (l.take j).map dualN
  col : Col 41 5 ndC Nd.ok (g5 + 1) (g5 + 1) w (.slice A j c) ys wr
  v5 : Vr wr g5 [.slice A j c, .int .i64 (root : Int)]
  v1 : Vr wr (w.heap.size + 1) [.slice none 0 0, .int .i64 0]
set_option maxRecDepth 100000 in
set_option maxHeartbeats 4000000 in
theorem dual_any (x : Ex) (w : World) (hv : VX x.lg x.root) (hok : x.ok w) : Calls Tryd.prog 5 #[.agg #[.slice x.nodes.a x.nodes.l.length x.nodes.c, .int .i64 (x.root : Int)]] w (RetExE (dual x.lg, x.root) w) := by
  have HR := Lib.hid hok.1
  have HK := Lib.hid hok.2.2
  have HE := Lib.hid hv.each
  have n1 := hv.le
  rw [Ex.lg_len] at n1
  obtain ⟨iN, hiN, hzN0, hzN1, hzN2⟩ := info_parts infoN
  have HIN := Lib.hid hiN
  have HZN0 := Lib.hid hzN0
  have HZN1 := Lib.hid hzN1
  have HZN2 := Lib.hid hzN2
  obtain ⟨w1, hw1⟩ : ∃ w1, w1 = (w.alloc (.cells #[.slice x.nodes.a x.nodes.l.length x.nodes.c, .int .i64 (x.root : Int)] 25)).alloc (.cells #[.slice none 0 0, .int .i64 0] 25) := ⟨_, rfl⟩
  have hb1 : Below w.heap.size w w1 := by rw [hw1]; exact bon (below_new w _) (below_new _ _)
  have hvx : Vr w1 w.heap.size [.slice x.nodes.a x.nodes.l.length x.nodes.c, .int .i64 (x.root : Int)] := by rw [hw1]; exact (Vr.new w _ _).below (below_new _ _)
  have hvr : Vr w1 (w.heap.size + 1) [.slice none 0 0, .int .i64 0] := by
    rw [hw1]
    have := Vr.new (w.alloc (.cells #[.slice x.nodes.a x.nodes.l.length x.nodes.c, .int .i64 (x.root : Int)] 25)) [.slice none 0 0, .int .i64 0] 25
    rwa [World.size_alloc] at this
  have HV := Lib.hid (valid_any x w1 hv (Ex.below hok hb1))
  have HW1 := Lib.hid hw1
  have HB1 := Lib.hid hb1
  have HX1 := Lib.hid hvx
  have HR1 := Lib.hid hvr
  clear hiN hzN0 hzN1 hzN2 hw1 hb1 hvx hvr hv hok
  go_enter Tryd.func5, Tryd.ntmps5
  go_upto_region 1 with fail
  rw [← HW1.out]
  have x0 := HX1.out.cells 0 _ rfl
  have x1 := HX1.out.cells 1 _ rfl
  have lx := HX1.out.lt
  go_wp2_with fail
  refine HV.out.mono ?_
  rintro e w2 ⟨rfl, b2⟩
  have HB2 := Lib.hid (bon HB1.out b2)
  have HX2 := Lib.hid (HX1.out.below b2)
  have HR2 := Lib.hid (HR1.out.below b2)
  clear x0 x1 lx b2
  have x0 := HX2.out.cells 0 _ rfl
  have x1 := HX2.out.cells 1 _ rfl
  have lx := HX2.out.lt
  obtain ⟨g5, hg5⟩ : ∃ g5, g5 = w2.heap.size := ⟨_, rfl⟩
  have hg2 : w.heap.size + 1 < g5 := by have := HR2.out.lt; omega
  have HD0 : Hid (DuSt w g5 x.root x.lg 0 none 0 [] (w2.alloc (.cells #[.slice none 0 0, .int .i64 (x.root : Int)] 25))) := Lib.hid
    ⟨rfl, rfl, Col.start _ _ _ _ _ _ _ _ (bon HB2.out (below_new w2 _)) ⟨by omega, by rw [hg5]; simp⟩, by rw [hg5]; exact Vr.new w2 _ _, HR2.out.below (below_new w2 _)⟩
  have HG5 := Lib.hid hg5
  clear hg5
  go_wp2_with fail
  rw [← HG5.out]
  clear x0 x1 lx
  go_loopw [22] (fun i wr => ∃ (j : Nat) (A : Option Addr) (c : Nat) (ys : List Nd), i = .int .i64 j ∧ j ≤ x.nodes.l.length ∧ DuSt w g5 x.root x.lg j A c ys wr) (fun i _ => x.nodes.l.length - (intOf i).toNat)
  case atStart => exact ⟨0, none, 0, [], rfl, Nat.zero_le _, HD0.out⟩
  case round =>
    obtain ⟨j, A, c, ys, rfl, hj, hd⟩ := hrel
    have HD := Lib.hid hd
    clear hd
    by_cases hlt : j < x.nodes.l.length
    · have i0' : (0 : Int) ≤ (j : Int) := by omega
      have i1 : (j : Int) < (x.nodes.l.length : Int) := by omega
      obtain ⟨n, b, o, hn, hA, hb, hrun0, hc⟩ := nd_at HR.out hlt
      have hrun := fun w' => hrun0 x.nodes.l.length w' hlt
      obtain ⟨a0, a1, a2, a3, a4⟩ := hc wr HD.out.col.low
      have hvl := HE.out j (by rw [Ex.lg_len]; exact hlt)
      rw [Ex.lg_get x j hlt, ← hn] at hvl
      have hnk : n.ok w := by rw [hn]; exact HK.out _ (List.getElem_mem hlt)
      have HNe := Lib.hid (show (x.lg.take (j + 1)).map dualN = (x.lg.take j).map dualN ++ [dualN n.lg] by
        rw [List.take_succ_eq_append_getElem (by rw [Ex.lg_len]; exact hlt), Ex.lg_get x j hlt, ← hn]; simp)
      have HNk := Lib.hid hnk
      have HVl := Lib.hid hvl
      clear hc hn hA hnk hrun0
      obtain ⟨q, hq⟩ : ∃ q, q = wr.heap.size := ⟨_, rfl⟩
      obtain ⟨w7, hw7⟩ : ∃ w7, w7 = wr.alloc (.cells #[.int .i64 (n.kind : Int), .int .i64 (n.server : Int), .int .i64 (n.need : Int), .slice none 0 0, .slice n.kids.a n.kids.l.length n.kids.c] 41) := ⟨_, rfl⟩
      have HB7 : Hid (Below wr.heap.size wr w7) := Lib.hid (by rw [hw7]; exact below_new wr _)
      have HV7 : Hid (Vr w7 q (ndC n)) := Lib.hid (by rw [hw7, hq]; exact Vr.new wr _ _)
      have HQ := Lib.hid hq
      have HW7 := Lib.hid hw7
      have q3 := HV7.out.cells 3 _ rfl
      have q4 := HV7.out.cells 4 _ rfl
      have lq := HV7.out.lt
      clear hq hw7
      go_upto_region 8 with fail
      rw [← HW7.out, ← HQ.out]
      have HZ7 : Hid (w7.heap.size = q + 1) := Lib.hid (by rw [HW7.out, HQ.out]; simp)
      have HQw : Hid (wr.heap.size = q) := Lib.hid HQ.out.symm
      have HCl : Hid (∀ W, Below w7.heap.size w7 W → Calls Tryd.prog 12 #[.slice n.kids.a n.kids.l.length n.kids.c] W (fun e w' => ∃ K kc, e = .returned (.slice K n.kids.l.length kc) ∧ New (q + 1) (fun W => Rd W 1 K n.kids.l.length (n.kids.l.flatMap nat1)) w' ∧ Below wr.heap.size wr w' ∧ Vr w' q (ndC n))) := Lib.hid (fun W hW =>
        (cloneI_any n.kids.a n.kids.c n.kids.l W (Nd.below (Nd.below HNk.out HD.out.col.low) (bon HB7.out hW)) (by have := HVl.out.kid.1; unfold Nd.lg at this; simp only at this; omega)).mono fun _ _ ⟨K, kc, he, hnw, _, hb⟩ =>
          ⟨K, kc, he, hnw.low (by rw [← HZ7.out]; exact hW.size), bon (bon HB7.out hW) hb, (HV7.out.below hW).below hb⟩)
      clear a0 a1 a2 a3 a4 hrun
      go_cut [] from 26 to 33 (fun wx => Cl8 w q n wr wx)
      case first =>
        go_region_with (first
          | (go_at_call 12; refine (cloneNil_any _).mono ?_; rintro e w3 ⟨rfl, rfl⟩)
          | (go_at_call 12; refine (HCl.out _ (by first | exact Below.refl _ _ | exact (Below.refl _ _).drew)).mono ?_; rintro e w3 ⟨K, kc, rfl, hnw, hbw, hvw⟩; have c3 := hvw.cells 3 _ rfl; have c4 := hvw.cells 4 _ rfl; have f3 := hvw.free 3 (by simp [ndC]); have f4 := hvw.free 4 (by simp [ndC]); have lw := hvw.lt))
        all_goals
          go_wp2_with fail
          go_meet
          case rel => exact cl8_mk hnw hbw hvw HQw.out
      case rest =>
        obtain ⟨K, kc, hv8, hn8, hb8⟩ := hcut
        rename World => ws
        clear q3 q4 lq
        by_cases hk1 : n.kind = 1
        · have e1 : ((n.kind : Int) == 2) = false := by rw [hk1]; rfl
          have HDn : Hid (dualN n.lg = Nd.lg ⟨n.kind, n.server, n.need, ⟨K, kc, n.kids.l⟩⟩) := Lib.hid (dualN_one n.lg hk1)
          have HVs := Lib.hid hv8
          have HNs : Hid (New (q + 1) (Nd.ok ⟨n.kind, n.server, n.need, ⟨K, kc, n.kids.l⟩⟩) ws) := Lib.hid hn8
          have HBs := Lib.hid hb8
          clear hv8 hn8 hb8 hk1
          have t0 := HVs.out.cells 0 _ rfl
          have lt0 := HVs.out.lt
          have s0 := HVs.out.cells 0 _ rfl
          have s1 := HVs.out.cells 1 _ rfl
          have s2 := HVs.out.cells 2 _ rfl
          have s3 := HVs.out.cells 3 _ rfl
          have s4 := HVs.out.cells 4 _ rfl
          have ls := HVs.out.lt
          have HC := Lib.hid (HD.out.col.below HBs.out)
          have H5 := Lib.hid (HD.out.v5.below HBs.out)
          have H1 := Lib.hid (HD.out.v1.below HBs.out)
          have c50 := H5.out.cells 0 _ rfl
          have l5 := H5.out.lt
          have hbase := HC.out.base
          have hjn : j ≤ 1000 := by omega
          have hown0 := HC.out.own
          rw [HD.out.len] at hown0
          have HO := Lib.hid hown0
          clear hown0
          go_wp2_with (at_builtin; refine wpList_append_lies _ rfl _ _ _ rfl (g5 + 1) 41 iN _ 5 72 Tryd.underlying23 HIN.out HZN0.out HZN1.out HZN2.out rfl (by decide) _ _ _ rfl (HO.out.alloc _) ⟨ws.heap.size, 0, none⟩ 1 1 [.int .i64 (n.kind : Int), .int .i64 (n.server : Int), .int .i64 (n.need : Int), .slice none 0 0, .slice K n.kids.l.length kc] rfl rfl (cell_new _ _ _ _ rfl) (by simp [Value.oneCell']) (by decide) (by simp [maxLen]; omega) (by omega) (by simp; omega) (ws.heap.size + 1) (by simp) ?_)
          intro g cap w4 hown hgrow hat hlt4
          have ha : Below ws.heap.size ws (ws.alloc (.cells #[.int .i64 (n.kind : Int), .int .i64 (n.server : Int), .int .i64 (n.need : Int), .slice none 0 0, .slice K n.kids.l.length kc] 41)) := below_new ws _
          have far : ∀ k, k ≤ g5 → (Value.slice A j c).ownBlock ≠ some k := fun k hk e => by have := (HC.out.own.lt _ e).1; omega
          have h5 := (H5.out.below ha).grown hgrow (far _ (Nat.le_refl _))
          have h1 := (H1.out.below ha).grown hgrow (far _ (by omega))
          have hcol : Col 41 5 ndC Nd.ok (g5 + 1) (g5 + 1) w (.slice (some ⟨g, 0, none⟩) (j + 1) cap) (ys ++ [⟨n.kind, n.server, n.need, ⟨K, kc, n.kids.l⟩⟩]) w4 :=
            HD.out.col.step HBs.out (HD.out.col.new (New.low HNs.out (by have := HQw.out; omega)) (by have := HQw.out; have := HD.out.col.base; omega)) ha (by rw [HD.out.len]; exact hown) hgrow (hat_of hat (by simp))
          have HN : Hid (DuSt w g5 x.root x.lg (j + 1) (some ⟨g, 0, none⟩) cap (ys ++ [⟨n.kind, n.server, n.need, ⟨K, kc, n.kids.l⟩⟩]) (w4.setCell ⟨g5, 0, none⟩ (.slice (some ⟨g, 0, none⟩) (j + 1) cap))) := Lib.hid
            ⟨by rw [List.length_append, HD.out.len]; rfl, by rw [List.map_append, HD.out.lg, HNe.out, HDn.out]; rfl, hcol.set _ _ (by show w.heap.size ≤ g5; omega) (by show g5 < g5 + 1; omega) (by show g5 < g5 + 1; omega), (h5.set 0 _).eq rfl, h1.grown (grown_set _ _ _) (by simp; omega)⟩
          have c54 := h5.cells 0 _ rfl
          have f54 := h5.free 0 (by simp)
          have l54 := h5.lt
          clear h5 h1 hcol hown hgrow hat ha far s0 s1 s2 s3 s4
          go_wp2_with fail
          go_roundw
          case rel => exact ⟨j + 1, some ⟨g, 0, none⟩, cap, _, by go_num, by omega, HN.out⟩
          case measure => simp [intOf]; omega
        · have hk2 : n.kind = 2 := by
            rcases HVl.out with h | h
            · exact absurd h.1 hk1
            · exact h.1
          have e1 : ((n.kind : Int) == 2) = true := by rw [hk2]; rfl
          have HDn : Hid (dualN n.lg = Nd.lg ⟨n.kind, n.server, n.kids.l.length + 1 - n.need, ⟨K, kc, n.kids.l⟩⟩) := Lib.hid (by rw [dualN_two n.lg hk2]; unfold Nd.lg; simp [hk2])
          have hneed : n.need ≤ 100000 := by
            rcases HVl.out with h | h
            · exact absurd h.1 hk1
            · exact h.2.2.1
          have hkl : n.kids.l.length ≤ 60 := HVl.out.kid.1
          have HV8 := Lib.hid hv8
          have HN8 := Lib.hid hn8
          have HB8 := Lib.hid hb8
          clear hv8 hn8 hb8 hk1 hk2
          have t0 := HV8.out.cells 0 _ rfl
          have t4 := HV8.out.cells 4 _ rfl
          have lt0 := HV8.out.lt
          go_wp2_with fail
          clear t0 t4 lt0
          go_loopw [8, 40] (fun s i w9 => ∃ m : Nat, i = .int .i64 m ∧ s = .int .i64 m ∧ m ≤ n.kids.l.length ∧ Vr w9 q [.int .i64 (n.kind : Int), .int .i64 (n.server : Int), .int .i64 (n.need : Int), .slice none 0 0, .slice K n.kids.l.length kc] ∧ New (q + 1) (fun W => Rd W 1 K n.kids.l.length (n.kids.l.flatMap nat1)) w9 ∧ Below wr.heap.size wr w9) (fun _ i _ => n.kids.l.length - (intOf i).toNat)
          case atStart => exact ⟨0, rfl, rfl, Nat.zero_le _, HV8.out, HN8.out, HB8.out⟩
          case round =>
            rename World => w9
            obtain ⟨m, rfl, rfl, hm, hv9, hn9, hb9⟩ := hrel
            have HV9 := Lib.hid hv9
            have HN9 := Lib.hid hn9
            have HB9 := Lib.hid hb9
            clear hv9 hn9 hb9
            have s0 := HV9.out.cells 0 _ rfl
            have s1 := HV9.out.cells 1 _ rfl
            have s2 := HV9.out.cells 2 _ rfl
            have s3 := HV9.out.cells 3 _ rfl
            have s4 := HV9.out.cells 4 _ rfl
            have ls9 := HV9.out.lt
            by_cases hml : m < n.kids.l.length
            · go_wp2_with fail
              refine (weight_any ⟨n.kind, n.server, n.need, ⟨K, kc, n.kids.l⟩⟩ m w9).mono ?_
              rintro e w10 ⟨rfl, b10⟩
              have HV10 := Lib.hid (HV9.out.below b10)
              have HN10 := Lib.hid (HN9.out.on b10)
              have HB10 := Lib.hid (bon HB9.out b10)
              clear b10
              go_wp2_with fail
              go_roundw
              case rel => exact ⟨m + 1, by go_num, by go_num, by omega, HV10.out, HN10.out, HB10.out⟩
              case measure => simp [intOf]; omega
            · obtain rfl : m = n.kids.l.length := by omega
              have f2 := HV9.out.free 2 (by simp)
              obtain ⟨d, hd⟩ : ∃ d, d = n.kids.l.length + 1 - n.need := ⟨_, rfl⟩
              have HMx : Hid ((if (0 : Int) < (n.kids.l.length : Int) - (n.need : Int) + 1 then (n.kids.l.length : Int) - (n.need : Int) + 1 else 0) = (d : Int)) := Lib.hid (by rw [hd]; split <;> omega)
              rw [← hd] at HDn
              clear hd
              go_upto_region 17 with fail
              simp only [HMx.out]
              have HVs : Hid (Vr (w9.setCell ⟨q, 2, none⟩ (.int .i64 (d : Int))) q [.int .i64 (n.kind : Int), .int .i64 (n.server : Int), .int .i64 (d : Int), .slice none 0 0, .slice K n.kids.l.length kc]) := Lib.hid ((HV9.out.set 2 _).eq rfl)
              have HNs : Hid (New (q + 1) (Nd.ok ⟨n.kind, n.server, d, ⟨K, kc, n.kids.l⟩⟩) (w9.setCell ⟨q, 2, none⟩ (.int .i64 (d : Int)))) := Lib.hid (HN9.out.set _ _ (by show q < q + 1; omega))
              have HBs : Hid (Below wr.heap.size wr (w9.setCell ⟨q, 2, none⟩ (.int .i64 (d : Int)))) := Lib.hid (HB9.out.setCell (by have := HQw.out; show wr.heap.size ≤ q; omega) _)
              generalize w9.setCell ⟨q, 2, none⟩ (.int .i64 (d : Int)) = ws at HVs HNs HBs ⊢
              clear s0 s1 s2 s3 s4 ls9 f2
              have s0 := HVs.out.cells 0 _ rfl
              have s1 := HVs.out.cells 1 _ rfl
              have s2 := HVs.out.cells 2 _ rfl
              have s3 := HVs.out.cells 3 _ rfl
              have s4 := HVs.out.cells 4 _ rfl
              have ls := HVs.out.lt
              have HC := Lib.hid (HD.out.col.below HBs.out)
              have H5 := Lib.hid (HD.out.v5.below HBs.out)
              have H1 := Lib.hid (HD.out.v1.below HBs.out)
              have c50 := H5.out.cells 0 _ rfl
              have l5 := H5.out.lt
              have hbase := HC.out.base
              have hjn : j ≤ 1000 := by omega
              have hown0 := HC.out.own
              rw [HD.out.len] at hown0
              have HO := Lib.hid hown0
              clear hown0
              go_wp2_with (at_builtin; refine wpList_append_lies _ rfl _ _ _ rfl (g5 + 1) 41 iN _ 5 72 Tryd.underlying23 HIN.out HZN0.out HZN1.out HZN2.out rfl (by decide) _ _ _ rfl (HO.out.alloc _) ⟨ws.heap.size, 0, none⟩ 1 1 [.int .i64 (n.kind : Int), .int .i64 (n.server : Int), .int .i64 (d : Int), .slice none 0 0, .slice K n.kids.l.length kc] rfl rfl (cell_new _ _ _ _ rfl) (by simp [Value.oneCell']) (by decide) (by simp [maxLen]; omega) (by omega) (by simp; omega) (ws.heap.size + 1) (by simp) ?_)
              intro g cap w4 hown hgrow hat hlt4
              have ha : Below ws.heap.size ws (ws.alloc (.cells #[.int .i64 (n.kind : Int), .int .i64 (n.server : Int), .int .i64 (d : Int), .slice none 0 0, .slice K n.kids.l.length kc] 41)) := below_new ws _
              have far : ∀ k, k ≤ g5 → (Value.slice A j c).ownBlock ≠ some k := fun k hk e => by have := (HC.out.own.lt _ e).1; omega
              have h5 := (H5.out.below ha).grown hgrow (far _ (Nat.le_refl _))
              have h1 := (H1.out.below ha).grown hgrow (far _ (by omega))
              have hcol : Col 41 5 ndC Nd.ok (g5 + 1) (g5 + 1) w (.slice (some ⟨g, 0, none⟩) (j + 1) cap) (ys ++ [⟨n.kind, n.server, d, ⟨K, kc, n.kids.l⟩⟩]) w4 :=
                HD.out.col.step HBs.out (HD.out.col.new (New.low HNs.out (by have := HQw.out; omega)) (by have := HQw.out; have := HD.out.col.base; omega)) ha (by rw [HD.out.len]; exact hown) hgrow (hat_of hat (by simp))
              have HN : Hid (DuSt w g5 x.root x.lg (j + 1) (some ⟨g, 0, none⟩) cap (ys ++ [⟨n.kind, n.server, d, ⟨K, kc, n.kids.l⟩⟩]) (w4.setCell ⟨g5, 0, none⟩ (.slice (some ⟨g, 0, none⟩) (j + 1) cap))) := Lib.hid
                ⟨by rw [List.length_append, HD.out.len]; rfl, by rw [List.map_append, HD.out.lg, HNe.out, HDn.out]; rfl, hcol.set _ _ (by show w.heap.size ≤ g5; omega) (by show g5 < g5 + 1; omega) (by show g5 < g5 + 1; omega), (h5.set 0 _).eq rfl, h1.grown (grown_set _ _ _) (by simp; omega)⟩
              have c54 := h5.cells 0 _ rfl
              have f54 := h5.free 0 (by simp)
              have l54 := h5.lt
              clear h5 h1 hcol hown hgrow hat ha far s0 s1 s2 s3 s4
              go_wp2_with fail
              go_roundw
              case rel => exact ⟨j + 1, some ⟨g, 0, none⟩, cap, _, by go_num, by omega, HN.out⟩
              case measure => simp [intOf]; omega
    · obtain rfl : j = x.nodes.l.length := by omega
      have c50 := HD.out.v5.cells 0 _ rfl
      have c51 := HD.out.v5.cells 1 _ rfl
      have l5 := HD.out.v5.lt
      have c10 := HD.out.v1.cells 0 _ rfl
      have c11 := HD.out.v1.cells 1 _ rfl
      have f10 := HD.out.v1.free 0 (by simp)
      have f11 := HD.out.v1.free 1 (by simp)
      have l1 := HD.out.v1.lt
      have HLn : Hid (ys.length = x.nodes.l.length) := Lib.hid HD.out.len
      have hcap : x.nodes.l.length ≤ c := by
        have h9 := HD.out.col.own
        rcases h9.2 with ⟨h, h0⟩ | ⟨g', cap', cur, h, _, _, h2, _⟩
        · rw [HLn.out] at h0; omega
        · injection h with h3 h4 h5; rw [HLn.out] at h2; omega
      go_wp2_with fail
      refine bodyPost_ret (v := .tuple #[.agg #[.slice A x.nodes.l.length c, .int .i64 (x.root : Int)], .int .i64 0]) (by simp [results, Tryd.results5, go_sem, c10, c11]) rfl ⟨⟨⟨A, c, ys⟩, x.root⟩, ?_, ?_, ?_, ?_⟩
      · show Ending.returned (.tuple #[.agg #[.slice A x.nodes.l.length c, .int .i64 (x.root : Int)], .int .i64 0]) = Ending.returned (.tuple #[.agg #[.slice A ys.length c, .int .i64 (x.root : Int)], .int .i64 0])
        rw [HLn.out]
      · show (ys.map Nd.lg, x.root) = (dual x.lg, x.root)
        rw [HD.out.lg, List.take_of_length_le (by rw [Ex.lg_len]; omega)]
        rfl
      · have h9 : New (g5 + 1) (fun W => Rd W 5 A ys.length (ys.flatMap ndC) ∧ ∀ y ∈ ys, y.ok W) wr := Col.done HD.out.col HLn.out.symm (Nat.le_refl _)
        exact New.low (New.imp ((h9.set ⟨w.heap.size + 1, 0, none⟩ (.slice A x.nodes.l.length c) (by show w.heap.size + 1 < g5 + 1; omega)).set ⟨w.heap.size + 1, 1, none⟩ (.int .i64 (x.root : Int)) (by show w.heap.size + 1 < g5 + 1; omega)) (fun W h => ⟨h.1, by show ys.length ≤ c; rw [HLn.out]; exact hcap, h.2⟩)) (by omega)
      · exact (HD.out.col.low.setCell (by show w.heap.size ≤ w.heap.size + 1; omega) _).setCell (by show w.heap.size ≤ w.heap.size + 1; omega) _
end Go.Proofs.YtlklmpcfhnbhgaaDoor
