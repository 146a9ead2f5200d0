/- The walk of the law. -/
import Derived.Test.YtlklmpcfhnbhgaaDoorCpT
import Derived.Test.YtlklmpcfhnbhgaaDoorCpM
namespace Go.Proofs.YtlklmpcfhnbhgaaDoor
open Go.RowKit
theorem wrap_ok (n : Int) (h : -9223372036854775808 ≤ n ∧ n ≤ 9223372036854775807) : wrap64 n = n := by unfold wrap64; omega
theorem below_al {w W : World} {o : Obj} (h : Below w.heap.size w W) : Below w.heap.size w (W.alloc o) := bon h (below_new _ _)
theorem lies_at {q : Value} {g H n cap : Nat} (h : q.ownBlock = some g ∨ g = H) : (Value.slice (some ⟨g, 0, none⟩) n cap).ownBlock = q.ownBlock ∨ (Value.slice (some ⟨g, 0, none⟩) n cap).ownBlock = some H := by
  rcases h with h | rfl
  · exact .inl h.symm
  · exact .inr rfl
/-- one more in the first row; what goes into the second stays whole -/
theorem Co2.step2 {w wr w3 w4 : World} {q1 q2 v' : Value} {xs1 xs2 : List Ex} {x z : Ex} (h : Co2 w q1 xs1 q2 xs2 wr) (hx : ∃ Fx, Foot Fx x.ok wr ∧ ∀ i, Fx i → i < wr.heap.size ∧ q1.ownBlock ≠ some i ∧ q2.ownBlock ≠ some i) (hz : ∃ Fx, Foot Fx z.ok wr ∧ ∀ i, Fx i → i < wr.heap.size ∧ q1.ownBlock ≠ some i ∧ q2.ownBlock ≠ some i) (h3 : Below wr.heap.size wr w3)
    (hown : w4.ownsRow w.heap.size 25 2 v' (xs1.length + 1) (xs1.flatMap exC ++ exC x)) (hgr : w3.grownBy w4 q1.ownBlock) (hat : v'.ownBlock = q1.ownBlock ∨ v'.ownBlock = some w3.heap.size) :
    Co2 w v' (xs1 ++ [x]) q2 xs2 w4 ∧ ∃ Fx, Foot Fx z.ok w4 ∧ ∀ i, Fx i → i < w4.heap.size ∧ q2.ownBlock ≠ some i ∧ v'.ownBlock ≠ some i := by
  refine ⟨h.step hx h3 hown hgr hat, ?_⟩
  obtain ⟨Fz, hFz, hiz⟩ := hz
  have z3 := h3.size
  have z4 := hgr.size
  refine ⟨Fz, hFz.on (by omega) (fun i a => (hgr.block i (by have := (hiz i a).1; omega) (fun e => (hiz i a).2.1 e.symm)).trans (h3.block i (hiz i a).1)), fun i a => ⟨by have := (hiz i a).1; omega, (hiz i a).2.2, fun e => ?_⟩⟩
  rcases hat with k | k
  · exact (hiz i a).2.1 (k.symm.trans e)
  · rw [k] at e; simp only [Option.some.injEq] at e; have := (hiz i a).1; omega
theorem hp_top {w : World} {o o' : Obj} : ((w.alloc o').alloc o).drew.heap[w.heap.size + 1]? = some o := by
  have := heap_alloc_new (w.alloc o') o
  rw [World.size_alloc] at this
  exact this
theorem hp_old {w : World} {o o' : Obj} : ((w.alloc o).alloc o').drew.heap[w.heap.size]? = some o := (heap_alloc_old (w.alloc o) o' (by simp)).trans (heap_alloc_new w o)
theorem news2 {wc W w7 : World} {q : Value} (hgr : W.grownBy w7 q.ownBlock) (hlt : ∀ b, q.ownBlock = some b → b < wc.heap.size) {i : Nat} (h1 : wc.heap.size ≤ i) {o : Obj} (h : W.heap[i]? = some o) : w7.heap[i]? = some o :=
  (hgr.block i (Array.getElem?_eq_some_iff.1 h).1 (fun e => by have := hlt i e.symm; omega)).trans h
set_option maxRecDepth 100000 in
set_option maxHeartbeats 8000000 in
theorem law_any (k : Nat) (sz nd : Nat → Nat) (hk : k < 256) (hs : ∀ m, sz m < 256) (hn : ∀ m, nd m < 256) (w : World) (ht : Tb w) :
    Calls Tryd.prog 3 #[.int .u8 (k : Int), .agg #[.int .u8 (sz 0 : Int), .int .u8 (sz 1 : Int), .int .u8 (sz 2 : Int)], .agg #[.int .u8 (nd 0 : Int), .int .u8 (nd 1 : Int), .int .u8 (nd 2 : Int)]] w
      (fun e w' => e = .returned (.bool true) ∧ Below w.heap.size w w') := by
  obtain ⟨iX, hiX, hzX0, hzX1, hzX2⟩ := info_parts infoX
  have HIX := Lib.hid hiX
  have HZX0 := Lib.hid hzX0
  have HZX1 := Lib.hid hzX1
  have HZX2 := Lib.hid hzX2
  clear hiX hzX0 hzX1 hzX2
  obtain ⟨wa, hwa⟩ : ∃ wa, wa = (w.alloc (.cells #[.int .u8 (sz 0 : Int), .int .u8 (sz 1 : Int), .int .u8 (sz 2 : Int)] 22)).alloc (.cells #[.int .u8 (nd 0 : Int), .int .u8 (nd 1 : Int), .int .u8 (nd 2 : Int)] 22) := ⟨_, rfl⟩
  have hba : Below w.heap.size w wa := by rw [hwa]; exact bon (below_new w _) (below_new _ _)
  have hcs : Vr wa w.heap.size [.int .u8 (sz 0 : Int), .int .u8 (sz 1 : Int), .int .u8 (sz 2 : Int)] := by rw [hwa]; exact (Vr.new w _ _).below (below_new _ _)
  have hcn : Vr wa (w.heap.size + 1) [.int .u8 (nd 0 : Int), .int .u8 (nd 1 : Int), .int .u8 (nd 2 : Int)] := by
    rw [hwa]
    have := Vr.new (w.alloc (.cells #[.int .u8 (sz 0 : Int), .int .u8 (sz 1 : Int), .int .u8 (sz 2 : Int)] 22)) [.int .u8 (nd 0 : Int), .int .u8 (nd 1 : Int), .int .u8 (nd 2 : Int)] 22
    rwa [World.size_alloc] at this
  have HWa := Lib.hid hwa
  have HBa := Lib.hid hba
  have HCs := Lib.hid hcs
  have HCn := Lib.hid hcn
  have HT := Lib.hid ht
  have HK := Lib.hid hk
  have HSz := Lib.hid hs
  have HNd := Lib.hid hn
  obtain ⟨a0, ha0⟩ : ∃ a0, a0 = 1 + k % 3 := ⟨_, rfl⟩
  have HA0 := Lib.hid ha0
  have ea : 1 + Int.tmod (k : Int) 3 = (a0 : Int) := by rw [Int.tmod_eq_emod_of_nonneg (by omega)]; omega
  have ea' : 1 + (k : Int) % 3 = (a0 : Int) := by omega
  obtain ⟨ob, hob⟩ : ∃ ob : Bool, ob = (k % 3 == 1) := ⟨_, rfl⟩
  have HOb := Lib.hid hob
  have eo : (Int.tmod (k : Int) 3 == 1) = ob := by rw [Int.tmod_eq_emod_of_nonneg (by omega), hob, Bool.eq_iff_iff, beq_iff_eq, beq_iff_eq]; omega
  have eo' : ((k : Int) % 3 == 1) = ob := by rw [hob, Bool.eq_iff_iff, beq_iff_eq, beq_iff_eq]; omega
  clear hwa hba hcs hcn ht ha0 hob hk hs hn
  go_enter Tryd.func3, Tryd.ntmps3
  go_upto_region 1 with fail
  rw [← HWa.out]
  go_wp2_with fail
  have HTh := Lib.hid (Threshold_any a0 (some ⟨wa.heap.size, 0, none⟩) 3 [0, 1, 2] (wa.alloc (.cells #[.int .i64 0, .int .i64 1, .int .i64 2] 3))
    (rd_range (n := 3) (by simp) (by simp) (by simp) (by simp) (by omega)) (by decide) (by decide) (by decide) (by decide) (by have := HA0.out; omega) (by have := HA0.out; simp; omega))
  refine HTh.out.mono ?_
  clear HTh
  rintro e w1 ⟨x, rfl, hxp, hxn, b1⟩
  have HX1 : Hid (x.pr = (th a0 [0, 1, 2], 3)) := Lib.hid hxp
  have hok1 : x.ok w1 := hxn.out
  have HB1 := Lib.hid (bon HBa.out (bon (below_new _ _) b1))
  have HOk1 := Lib.hid hok1
  have HT1 := Lib.hid (HT.out.below (HB1.out))
  have HCs1 := Lib.hid (HCs.out.below (bon (below_new _ _) b1))
  have HCn1 := Lib.hid (HCn.out.below (bon (below_new _ _) b1))
  clear hxp hxn b1 hok1
  go_upto_region 3 with fail
  obtain ⟨w2, hw2⟩ : ∃ w2, w2 = w1.alloc (.cells #[.slice x.nodes.a x.nodes.l.length x.nodes.c, .int .i64 (x.root : Int)] 25) := ⟨_, rfl⟩
  obtain ⟨wb, hwb⟩ : ∃ wb, wb = (w2.alloc (.cells #[] 25)).alloc (.cells #[] 25) := ⟨_, rfl⟩
  obtain ⟨p7, hp7⟩ : ∃ p7, p7 = w1.heap.size := ⟨_, rfl⟩
  rw [← hw2, ← hwb, ← hp7]
  have hz2 : w2.heap.size = p7 + 1 := by rw [hw2, hp7]; simp
  have hb12 : Below w1.heap.size w1 w2 := by rw [hw2]; exact below_new _ _
  have hb2b : Below w2.heap.size w2 wb := by rw [hwb]; exact bon (below_new _ _) (below_new _ _)
  have HV7 : Hid (Vr w2 p7 (exC x)) := Lib.hid (by rw [hw2, hp7]; exact Vr.new w1 _ _)
  have HZ2 := Lib.hid hz2
  have HCo0 : Hid (Co2 w2 (.slice (some ⟨p7 + 1, 0, none⟩) 0 0) [] (.slice (some ⟨p7 + 1 + 1, 0, none⟩) 0 0) [] wb) := Lib.hid (by
    have o1 := World.ownsRow_lit (base := w2.heap.size) (e := 25) (size := 2) w2 #[] 0 (Nat.le_refl _) (by simp) rfl
    have o2 := World.ownsRow_lit (base := w2.heap.size) (e := 25) (size := 2) (w2.alloc (.cells #[] 25)) #[] 0 (by simp) (by simp) rfl
    rw [World.size_alloc, hz2] at o2
    rw [hz2] at o1
    rw [hwb]
    refine ⟨by rw [hz2]; exact ownsRow_below o1 (below_new _ _), by rw [hz2]; exact o2, by rw [← hwb]; exact hb2b, ?_, ?_⟩
    · intro b hb
      simp [Value.ownBlock] at hb ⊢
      try omega
    · exact ⟨fun _ => False, fun W _ _ => ⟨by simp, by simp⟩, fun i hi => hi.elim⟩)
  have HB2 := Lib.hid (bon HB1.out hb12)
  have HT2 := Lib.hid (HT1.out.below hb12)
  have HOk2 := Lib.hid (Ex.below HOk1.out hb12)
  have HCs2 := Lib.hid (HCs1.out.below hb12)
  have HCn2 := Lib.hid (HCn1.out.below hb12)
  have s0 := (HCs2.out.below hb2b).cells 0 _ rfl
  have s1 := (HCs2.out.below hb2b).cells 1 _ rfl
  have s2 := (HCs2.out.below hb2b).cells 2 _ rfl
  clear hw2 hwb hp7 hz2 hb12 hb2b HB1 HOk1 HT1 HCs1 HCn1
  go_wp2_with fail
  clear s0 s1 s2
  go_loopw [9, 10, 11, 47] (fun q1 q2 bo i wr => ∃ (j : Nat) (q1' q2' : Value) (ys1 ys2 : List Ex), i = .int .i64 j ∧ q1' = q1 ∧ q2' = q2 ∧ bo = .bool (oddTo k sz nd j) ∧ j ≤ 3 ∧ ys1.map Ex.pr = prs1 sz nd j ∧ ys2.map Ex.pr = prs2 sz nd j ∧ Co2 w2 q1' ys1 q2' ys2 wr) (fun _ _ _ i _ => 3 - (intOf i).toNat)
  case atStart => exact ⟨0, _, _, [], [], rfl, rfl, rfl, by rw [HOb.out]; rfl, by omega, rfl, rfl, HCo0.out⟩
  case round =>
    rename World => w3
    obtain ⟨j, q1, q2, ys1, ys2, rfl, rfl, rfl, rfl, hj, hy1, hy2, hco⟩ := hrel
    have HY1 := Lib.hid hy1
    have HY2 := Lib.hid hy2
    have HCo := Lib.hid hco
    clear hy1 hy2 hco
    by_cases hjl : j < 3
    · have j0' : (0 : Int) ≤ (j : Int) := by omega
      have j1 : (j : Int) < 3 := by omega
      have hrun : ∀ w', Sem.run Tryd.prog (Instr.index 22 (.agg #[.int .u8 (sz 0 : Int), .int .u8 (sz 1 : Int), .int .u8 (sz 2 : Int)]) (.int .i64 j)) w' = .ok (.int .u8 (sz j : Int)) w' := fun w' => by
        match j, hjl with
        | 0, _ => first | rfl | (simp [Instr.index, go_sem]; done) | go_simp
        | 1, _ => first | rfl | (simp [Instr.index, go_sem]; done) | go_simp
        | 2, _ => first | rfl | (simp [Instr.index, go_sem]; done) | go_simp
      obtain ⟨n, hn⟩ : ∃ n, n = nv sz j := ⟨_, rfl⟩
      obtain ⟨m, hm⟩ : ∃ m, m = jv sz nd j := ⟨_, rfl⟩
      have hn3 : 1 ≤ n ∧ n ≤ 3 := by have := nv_in sz j; rw [← hn] at this; unfold in13 at this; omega
      have hm3 : 1 ≤ m ∧ m ≤ n := by have := jv_in sz nd j; rw [← hn, ← hm] at this; exact this
      have en : 1 + (sz j : Int) % 3 = (n : Int) := by rw [hn]; unfold nv; omega
      have n0 : ((n : Int) == 0) = false := by rw [beq_eq_false_iff_ne]; omega
      have em : wrap64 (1 + (wrap64 (nd j : Int)).tmod (n : Int)) = (m : Int) := by
        have h9 := HNd.out j
        have h8 : (nd j % n) < n := Nat.mod_lt _ (by omega)
        rw [wrap_ok (nd j : Int) (by omega), Int.tmod_eq_emod_of_nonneg (by omega), hm, jv, ← hn, ← Int.natCast_emod, wrap_ok _ (by omega)]
        push_cast; rfl
      have n0' : (0 : Int) ≤ (n : Int) := by omega
      have n3' : (n : Int) ≤ 3 := by omega
      have hns : (n : Int) ≠ 0 := by omega
      have hlow := HCo.out.low
      have c0 : w3.cell? ⟨w.heap.size + 1, j, none⟩ = some (.int .u8 (nd j : Int)) := by
        have hv := HCn2.out.below hlow
        match j, hjl with
        | 0, _ => exact hv.cells 0 _ rfl
        | 1, _ => exact hv.cells 1 _ rfl
        | 2, _ => exact hv.cells 2 _ rfl
      have lc := (HCn2.out.below hlow).lt
      have HN := Lib.hid hn
      have HM := Lib.hid hm
      have HN3 := Lib.hid hn3
      have HM3 := Lib.hid hm3
      clear hn hm hn3 hm3 hlow
      go_wp2_with fail
      have hTh := Threshold_any m (some ⟨w3.heap.size, 0, none⟩) 3 (List.range n) (w3.alloc (.cells #[.int .i64 0, .int .i64 1, .int .i64 2] 3))
        (rd_range (n := n) (by simp) (by simp) (by simp) (by simp) HN3.out.2) (by rw [List.length_range]; exact HN3.out.2) (by rw [List.length_range]; have := HN3.out; omega) (range_facts n HN3.out.2).1 (range_facts n HN3.out.2).2 HM3.out.1 (by rw [List.length_range]; exact HM3.out.2)
      rw [List.length_range] at hTh
      refine hTh.mono ?_
      clear hTh c0 lc
      rintro e w4 ⟨y, rfl, hyp, hyn, b4⟩
      have HY : Hid (y.pr = (th m (List.range n), n)) := Lib.hid hyp
      have HVy : Hid (VX y.lg y.root) := Lib.hid (by
        have h1 : y.lg = th m (List.range n) := congrArg Prod.fst hyp
        have h2 : y.root = n := congrArg Prod.snd hyp
        have h9 := VX_th m (List.range n) (by rw [List.length_range]; have := HN3.out; omega) (range_facts n HN3.out.2).1 (by have := HM3.out; have := HN3.out; omega)
        rw [List.length_range] at h9
        rw [h1, h2]; exact h9)
      have HB34 := Lib.hid (bon (below_new w3 _) b4)
      have HYn : Hid (New w3.heap.size y.ok w4) := Lib.hid (hyn.low (by simp))
      obtain ⟨p16, hp16⟩ : ∃ p16, p16 = w4.heap.size := ⟨_, rfl⟩
      obtain ⟨w5, hw5⟩ : ∃ w5, w5 = w4.alloc (.cells #[.slice y.nodes.a y.nodes.l.length y.nodes.c, .int .i64 (y.root : Int)] 25) := ⟨_, rfl⟩
      have hb45 : Below w4.heap.size w4 w5 := by rw [hw5]; exact below_new _ _
      have hv16 : Vr w5 p16 (exC y) := by rw [hw5, hp16]; exact Vr.new w4 _ _
      have HB35 := Lib.hid (bon HB34.out hb45)
      have HYn5 := Lib.hid (HYn.out.on hb45)
      have HV16 := Lib.hid hv16
      have HW5 := Lib.hid hw5
      have HP16 := Lib.hid hp16
      clear hyp hyn b4 hw5 hp16 hb45 hv16
      have y0 := HV16.out.cells 0 _ rfl
      have y1 := HV16.out.cells 1 _ rfl
      have ly := HV16.out.lt
      go_upto_region 9 with fail
      rw [← HW5.out, ← HP16.out]
      have HD := Lib.hid (dual_any y w5 HVy.out HYn5.out.out)
      go_wp2_with fail
      refine HD.out.mono ?_
      clear HD y0 y1 ly
      rintro e w6 ⟨z, rfl, hzp, hzn, b6⟩
      obtain ⟨p18, hp18⟩ : ∃ p18, p18 = w6.heap.size := ⟨_, rfl⟩
      obtain ⟨wc, hwc⟩ : ∃ wc, wc = w6.alloc (.cells #[.slice z.nodes.a z.nodes.l.length z.nodes.c, .int .i64 (z.root : Int)] 25) := ⟨_, rfl⟩
      have hb6c : Below w6.heap.size w6 wc := by rw [hwc]; exact below_new _ _
      have hv18 : Vr wc p18 (exC z) := by rw [hwc, hp18]; exact Vr.new w6 _ _
      have hb5c := bon b6 hb6c
      have HZ : Hid (z.pr = (dual (th m (List.range n)), n)) := Lib.hid (by
        have h1 : y.lg = th m (List.range n) := congrArg Prod.fst HY.out
        have h2 : y.root = n := congrArg Prod.snd HY.out
        rw [hzp, h1, h2])
      have hb3c := bon HB35.out hb5c
      have HFy := Lib.hid (HCo.out.new hb3c (HYn5.out.on hb5c))
      have HFz := Lib.hid (HCo.out.new hb3c ((hzn.low HB35.out.size).on hb6c))
      have HCc := Lib.hid (HCo.out.below hb3c)
      have HV16c := Lib.hid (HV16.out.below hb5c)
      have HV18 := Lib.hid hv18
      have HB3c := Lib.hid hb3c
      have HWc := Lib.hid hwc
      have HP18 := Lib.hid hp18
      have HP18w : Hid (w5.heap.size ≤ p18) := Lib.hid (by rw [hp18]; exact b6.size)
      clear hzp hzn b6 hp18 hwc hb6c hv18 hb5c hb3c
      go_upto_region 10 with fail
      rw [← HWc.out, ← HP18.out]
      go_upto_region 12 with fail
      have y0 := HV16c.out.cells 0 _ rfl
      have y1 := HV16c.out.cells 1 _ rfl
      have ly := HV16c.out.lt
      have z0 := HV18.out.cells 0 _ rfl
      have z1 := HV18.out.cells 1 _ rfl
      have lz := HV18.out.lt
      have hl1 : ys1.length ≤ 3 := by have h9 := congrArg List.length HY1.out; simp only [prs1, List.length_map, List.length_range] at h9; omega
      have hl2 : ys2.length ≤ 3 := by have h9 := congrArg List.length HY2.out; simp only [prs2, List.length_map, List.length_range] at h9; omega
      have hzc : w2.heap.size ≤ wc.heap.size := HCc.out.low.size
      have HN18 : Hid (q1.ownBlock ≠ some p18) := Lib.hid (by
        intro e
        have h1 := (HCo.out.o1.lt _ e).2
        have h2 := HB35.out.size
        have h3 : w5.heap.size ≤ p18 := HP18w.out
        omega)
      go_region_law (first | (refine step_append_lies _ (by rfl) (.tmp 81) (.tmp 83) 30 (by rfl) w2.heap.size 25 iX _ 2 32 Tryd.underlying30 HIX.out HZX0.out HZX1.out HZX2.out rfl (by decide) q1 ys1.length (ys1.flatMap exC) (by rfl) (ownsRow_below HCc.out.o1 (by repeat (first | with_reducible exact Below.refl _ _ | with_reducible refine Below.drew ?_ | with_reducible refine below_al ?_))) _ 1 1 [.slice y.nodes.a y.nodes.l.length y.nodes.c, .int .i64 (y.root : Int)] (by rfl) (by rfl) (by first | exact World.news_of_block (cs := #[.slice y.nodes.a y.nodes.l.length y.nodes.c, .int .i64 (y.root : Int)]) (t := 25) (fr := (0, 0)) (heap_alloc_new _ _) | exact World.news_of_block (cs := #[.slice y.nodes.a y.nodes.l.length y.nodes.c, .int .i64 (y.root : Int)]) (t := 25) (fr := (0, 0)) (hp_old) | exact World.news_of_block (cs := #[.slice y.nodes.a y.nodes.l.length y.nodes.c, .int .i64 (y.root : Int)]) (t := 25) (fr := (0, 0)) (hp_top)) (by simp [Value.oneCell']) (by decide) (by simp [maxLen]; omega) (by omega) (by first | omega | (simp; omega)) _ rfl ?_; intro g1 cap1 w7 hown7 hgr7 hat7 hlt7; have hco7 := HCc.out.step2 (x := y) (z := z) HFy.out HFz.out (by repeat (first | with_reducible exact Below.refl _ _ | with_reducible refine Below.drew ?_ | with_reducible refine below_al ?_)) hown7 hgr7 (lies_at hat7); have hz7 := hco7.1.low.size; have hv7 := (HV18.out.below (by repeat (first | with_reducible exact Below.refl _ _ | with_reducible refine Below.drew ?_ | with_reducible refine below_al ?_))).grown hgr7 (fun e => HN18.out e); have c70 := hv7.cells 0 _ rfl; have c71 := hv7.cells 1 _ rfl; have l7 := hv7.lt) | (refine step_append_lies _ (by rfl) (.tmp 85) (.tmp 87) 30 (by rfl) w2.heap.size 25 iX _ 2 32 Tryd.underlying30 HIX.out HZX0.out HZX1.out HZX2.out rfl (by decide) q2 ys2.length (ys2.flatMap exC) (by rfl) (ownsRow_below hco7.1.o2 (by repeat (first | with_reducible exact Below.refl _ _ | with_reducible refine Below.drew ?_ | with_reducible refine below_al ?_))) _ 1 1 [.slice z.nodes.a z.nodes.l.length z.nodes.c, .int .i64 (z.root : Int)] (by rfl) (by rfl) (by first | exact World.news_of_block (cs := #[.slice z.nodes.a z.nodes.l.length z.nodes.c, .int .i64 (z.root : Int)]) (t := 25) (fr := (0, 0)) (heap_alloc_new _ _) | exact World.news_of_block (cs := #[.slice z.nodes.a z.nodes.l.length z.nodes.c, .int .i64 (z.root : Int)]) (t := 25) (fr := (0, 0)) (news2 hgr7 (fun b hb => (HCc.out.o1.lt b hb).2) (Nat.le_succ _) hp_top) | exact World.news_of_block (cs := #[.slice z.nodes.a z.nodes.l.length z.nodes.c, .int .i64 (z.root : Int)]) (t := 25) (fr := (0, 0)) (news2 hgr7 (fun b hb => (HCc.out.o1.lt b hb).2) (Nat.le_refl _) hp_old)) (by simp [Value.oneCell']) (by decide) (by simp [maxLen]; omega) (by omega) (by first | omega | (simp; omega)) _ rfl ?_; intro g2 cap2 w8 hown8 hgr8 hat8 hlt8; have hco8 := (hco7.1.symm.step hco7.2 (by repeat (first | with_reducible exact Below.refl _ _ | with_reducible refine Below.drew ?_ | with_reducible refine below_al ?_)) hown8 hgr8 (lies_at hat8)).symm))
      all_goals
        have HC8 := Lib.hid hco8
        have HP1 : Hid ((ys1 ++ [y]).map Ex.pr = prs1 sz nd (j + 1)) := Lib.hid (by rw [prs1_succ, List.map_append, HY1.out, ← HN.out, ← HM.out]; show _ ++ [y.pr] = _; rw [HY.out])
        have HP2 : Hid ((ys2 ++ [z]).map Ex.pr = prs2 sz nd (j + 1)) := Lib.hid (by rw [prs2_succ, List.map_append, HY2.out, ← HN.out, ← HM.out]; show _ ++ [z.pr] = _; rw [HZ.out])
        clear hown7 hgr7 hat7 hlt7 hown8 hgr8 hat8 hlt8 hv7 c70 c71 l7 y0 y1 ly z0 z1 lz hco7 hco8 hz7
        obtain ⟨o, ho⟩ : ∃ o, o = oddTo k sz nd j := ⟨_, rfl⟩
        have HO : Hid (oddTo k sz nd (j + 1) = (o && ((n % 2 == 1) && (m == n / 2 + 1)))) := Lib.hid (by rw [ho]; show (oddTo k sz nd j && oddN sz nd j) = _; unfold oddN; rw [← HN.out, ← HM.out])
        rw [← ho]
        clear ho
        have hnm : (n = 1 ∧ m = 1) ∨ (n = 2 ∧ m = 1) ∨ (n = 2 ∧ m = 2) ∨ (n = 3 ∧ m = 1) ∨ (n = 3 ∧ m = 2) ∨ (n = 3 ∧ m = 3) := by have := HN3.out; have := HM3.out; omega
        clear en n0 em n0' n3' hns
        rcases hnm with ⟨rfl, rfl⟩ | ⟨rfl, rfl⟩ | ⟨rfl, rfl⟩ | ⟨rfl, rfl⟩ | ⟨rfl, rfl⟩ | ⟨rfl, rfl⟩ <;> cases o <;>
        · go_wp2_with fail
          go_roundw
          case rel => exact ⟨j + 1, _, _, ys1 ++ [y], ys2 ++ [z], by go_num, rfl, rfl, by rw [HO.out]; rfl, by omega, HP1.out, HP2.out, by simpa using HC8.out⟩
          case measure => simp [intOf]; omega
    · obtain rfl : j = 3 := by omega
      clear hj hjl
      obtain ⟨A1, c1, e1⟩ := ownsRow_form HCo.out.o1
      obtain ⟨A2, c2, e2⟩ := ownsRow_form HCo.out.o2
      subst e1 e2
      have hl1 : ys1.length = 3 := by have h9 := congrArg List.length HY1.out; simpa [prs1] using h9
      have hl2 : ys2.length = 3 := by have h9 := congrArg List.length HY2.out; simpa [prs2] using h9
      have HI1 : Hid (Ins w3 ⟨A1, c1, ys1⟩) := Lib.hid (HCo.out.ins (prs1_vx sz nd ys1 HY1.out))
      have HI2 : Hid (Ins w3 ⟨A2, c2, ys2⟩) := Lib.hid (HCo.out.symm.ins (prs2_vx sz nd ys2 HY2.out))
      have hxl : x.lg = th a0 [0, 1, 2] := congrArg Prod.fst HX1.out
      have hxr : x.root = 3 := congrArg Prod.snd HX1.out
      have hxv : VX x.lg x.root := by rw [hxl, hxr]; exact VX_th a0 [0, 1, 2] (by decide) (by decide) (by have := HA0.out; omega)
      have HXv := Lib.hid hxv
      have ia : in13 a0 := by have := HA0.out; unfold in13; omega
      have ij : ∀ m, in13 (jv sz nd m) := fun m => by have := jv_in sz nd m; have h := nv_in sz m; unfold in13 at h ⊢; omega
      have hall := comp_vx a0 (jv sz nd 0) (jv sz nd 1) (jv sz nd 2) (nv sz 0) (nv sz 1) (nv sz 2) ia (ij 0) (ij 1) (ij 2) (nv_in sz 0) (nv_in sz 1) (nv_in sz 2)
      have hf1 := comp_facts a0 (jv sz nd 0) (jv sz nd 1) (jv sz nd 2) (nv sz 0) (nv sz 1) (nv sz 2) (nv_in sz 0) (nv_in sz 1) (nv_in sz 2)
      have hf2 := compD_facts a0 (jv sz nd 0) (jv sz nd 1) (jv sz nd 2) (nv sz 0) (nv sz 1) (nv sz 2) (nv_in sz 0) (nv_in sz 1) (nv_in sz 2)
      have hd := compD_dual a0 (jv sz nd 0) (jv sz nd 1) (jv sz nd 2) (nv sz 0) (nv sz 1) (nv sz 2) (nv_in sz 0) (nv_in sz 1) (nv_in sz 2)
      have hp1 : prs1 sz nd 3 = lst (jv sz nd 0) (jv sz nd 1) (jv sz nd 2) (nv sz 0) (nv sz 1) (nv sz 2) := rfl
      have hp2 : prs2 sz nd 3 = lstD (jv sz nd 0) (jv sz nd 1) (jv sz nd 2) (nv sz 0) (nv sz 1) (nv sz 2) := rfl
      obtain ⟨C, hC⟩ : ∃ C, C = comp a0 (jv sz nd 0) (jv sz nd 1) (jv sz nd 2) (nv sz 0) (nv sz 1) (nv sz 2) := ⟨_, rfl⟩
      have HCv : Hid (VX C (C.length - 1)) := Lib.hid (by rw [hC]; exact hall.1)
      have HOd : Hid (oddTo k sz nd 3 = true → dual C = C) := Lib.hid (fun h => by rw [hC, HA0.out]; exact odd_same k sz nd h)
      have HCp1 : Hid (∀ W, Below w3.heap.size w3 W → Calls Tryd.prog 6 #[.agg #[.slice x.nodes.a x.nodes.l.length x.nodes.c, .int .i64 (x.root : Int)], .slice A1 ys1.length c1] W (RetExE (C, C.length - 1) W)) := Lib.hid (fun W hW => by
        have h9 : Calls Tryd.prog 6 #[.agg #[.slice x.nodes.a x.nodes.l.length x.nodes.c, .int .i64 (x.root : Int)], .slice A1 ys1.length c1] W (RetExE (wr 4 x.lg x.root (mvs 0 (ys1.map Ex.pr)) [], (wr 4 x.lg x.root (mvs 0 (ys1.map Ex.pr)) []).length - 1) W) :=
          comp_any 4 x ⟨A1, c1, ys1⟩ W hxv (Ex.below HOk2.out (bon HCo.out.low hW)) (HI1.out.below hW) (by show 0 < ys1.length; omega) (by show ys1.length ≤ 100; omega) (by rw [hxl]; show ∀ n ∈ th a0 [0, 1, 2], n.kind = 1 → n.server < ys1.length; rw [hl1]; exact th_srv a0)
            (by show tot (ys1.map Ex.pr) ≤ 12; rw [HY1.out, hp1]; exact hf1.1) (by show size2 (mvs 0 (ys1.map Ex.pr)) x.pr < 61; rw [HY1.out, HX1.out, hp1]; exact hf1.2.1) (by show wok 4 x.lg x.root (mvs 0 (ys1.map Ex.pr)); rw [HY1.out, hxl, hxr, hp1]; exact hall.2.1) (by show (wr 4 x.lg x.root (mvs 0 (ys1.map Ex.pr)) []).length ≤ 1000; rw [HY1.out, hxl, hxr, hp1]; exact hf1.2.2)
        have e : wr 4 x.lg x.root (mvs 0 (ys1.map Ex.pr)) [] = C := by rw [HY1.out, hxl, hxr, hC, hp1]; rfl
        rw [e] at h9
        exact h9)
      have HCp2 : Hid (∀ (d : Ex) W, d.lg = dual (th a0 [0, 1, 2]) → d.root = 3 → VX d.lg d.root → d.ok W → Below w3.heap.size w3 W → Calls Tryd.prog 6 #[.agg #[.slice d.nodes.a d.nodes.l.length d.nodes.c, .int .i64 (d.root : Int)], .slice A2 ys2.length c2] W (RetExE (dual C, (dual C).length - 1) W)) := Lib.hid (fun d W hdl hdr hdv hdo hW => by
        have hdp : d.pr = (dual (th a0 [0, 1, 2]), 3) := by unfold Ex.pr; rw [hdl, hdr]
        have h9 : Calls Tryd.prog 6 #[.agg #[.slice d.nodes.a d.nodes.l.length d.nodes.c, .int .i64 (d.root : Int)], .slice A2 ys2.length c2] W (RetExE (wr 4 d.lg d.root (mvs 0 (ys2.map Ex.pr)) [], (wr 4 d.lg d.root (mvs 0 (ys2.map Ex.pr)) []).length - 1) W) :=
          comp_any 4 d ⟨A2, c2, ys2⟩ W hdv hdo (HI2.out.below hW) (by show 0 < ys2.length; omega) (by show ys2.length ≤ 100; omega) (by rw [hdl]; show ∀ n ∈ dual (th a0 [0, 1, 2]), n.kind = 1 → n.server < ys2.length; rw [hl2]; exact dth_srv a0)
            (by show tot (ys2.map Ex.pr) ≤ 12; rw [HY2.out, hp2]; exact hf2.1) (by show size2 (mvs 0 (ys2.map Ex.pr)) d.pr < 61; rw [HY2.out, hdp, hp2]; exact hf2.2.1) (by show wok 4 d.lg d.root (mvs 0 (ys2.map Ex.pr)); rw [HY2.out, hdl, hdr, hp2]; exact hall.2.2) (by show (wr 4 d.lg d.root (mvs 0 (ys2.map Ex.pr)) []).length ≤ 1000; rw [HY2.out, hdl, hdr, hp2]; exact hf2.2.2)
        have e : wr 4 d.lg d.root (mvs 0 (ys2.map Ex.pr)) [] = dual C := by rw [HY2.out, hdl, hdr, hC, hp2, ← hd]; rfl
        rw [e] at h9
        exact h9)
      have HXl := Lib.hid hxl
      have HXr := Lib.hid hxr
      have HL3 := Lib.hid HCo.out.low
      clear hxl hxr hxv ia ij hall hf1 hf2 hd hp1 hp2 hC hl1 hl2
      obtain ⟨od, hod⟩ : ∃ od, od = oddTo k sz nd 3 := ⟨_, rfl⟩
      rw [← hod]
      have HOd2 : Hid (od = true → dual C = C) := Lib.hid (by rw [hod]; exact HOd.out)
      clear hod
      have x0 := (HV7.out.below HL3.out).cells 0 _ rfl
      have x1 := (HV7.out.below HL3.out).cells 1 _ rfl
      have lx := (HV7.out.below HL3.out).lt
      have HB3w3 := Lib.hid (Below.refl w3.heap.size w3)
      go_wp2_with fail
      refine (dual_any x w3 HXv.out (Ex.below HOk2.out HL3.out)).mono ?_
      rintro e w4 ⟨d, rfl, hvp, hvn, bb⟩
      obtain ⟨p20, hp⟩ : ∃ p20, p20 = w4.heap.size := ⟨_, rfl⟩
      obtain ⟨w5, hw⟩ : ∃ w5, w5 = w4.alloc (.cells #[.slice d.nodes.a d.nodes.l.length d.nodes.c, .int .i64 (d.root : Int)] 25) := ⟨_, rfl⟩
      have hbn : Below w4.heap.size w4 w5 := by rw [hw]; exact below_new _ _
      have HVp20 : Hid (Vr w5 p20 (exC d)) := Lib.hid (by rw [hw, hp]; exact Vr.new w4 _ _)
      have HSw5 := Lib.hid (bon bb hbn)
      have HB3w5 := Lib.hid (bon HB3w3.out HSw5.out)
      have HOkd : Hid (d.ok w5) := Lib.hid ((hvn.on hbn).out)
      have HPd : Hid (d.pr = (dual x.lg, x.root)) := Lib.hid hvp
      have HLd : Hid (d.lg = ((dual x.lg, x.root)).1) := Lib.hid (congrArg Prod.fst hvp)
      have HRd : Hid (d.root = ((dual x.lg, x.root)).2) := Lib.hid (congrArg Prod.snd hvp)
      have HWw5 := Lib.hid hw
      have HQw5 := Lib.hid hp
      clear hvp hvn bb hp hw hbn x0 x1 lx
      go_upto_region 16 with fail
      rw [← HWw5.out, ← HQw5.out]
      have x0 := (HV7.out.below (bon HL3.out HB3w5.out)).cells 0 _ rfl
      have x1 := (HV7.out.below (bon HL3.out HB3w5.out)).cells 1 _ rfl
      have lx := (HV7.out.below (bon HL3.out HB3w5.out)).lt
      go_wp2_with fail
      refine (HCp1.out w5 HB3w5.out).mono ?_
      rintro e w6 ⟨u, rfl, hvp, hvn, bb⟩
      obtain ⟨p22, hp⟩ : ∃ p22, p22 = w6.heap.size := ⟨_, rfl⟩
      obtain ⟨w7, hw⟩ : ∃ w7, w7 = w6.alloc (.cells #[.slice u.nodes.a u.nodes.l.length u.nodes.c, .int .i64 (u.root : Int)] 25) := ⟨_, rfl⟩
      have hbn : Below w6.heap.size w6 w7 := by rw [hw]; exact below_new _ _
      have HVp22 : Hid (Vr w7 p22 (exC u)) := Lib.hid (by rw [hw, hp]; exact Vr.new w6 _ _)
      have HSw7 := Lib.hid (bon bb hbn)
      have HB3w7 := Lib.hid (bon HB3w5.out HSw7.out)
      have HOku : Hid (u.ok w7) := Lib.hid ((hvn.on hbn).out)
      have HPu : Hid (u.pr = (C, C.length - 1)) := Lib.hid hvp
      have HLu : Hid (u.lg = ((C, C.length - 1)).1) := Lib.hid (congrArg Prod.fst hvp)
      have HRu : Hid (u.root = ((C, C.length - 1)).2) := Lib.hid (congrArg Prod.snd hvp)
      have HWw7 := Lib.hid hw
      have HQw7 := Lib.hid hp
      clear hvp hvn bb hp hw hbn x0 x1 lx
      go_upto_region 17 with fail
      rw [← HWw7.out, ← HQw7.out]
      have x0 := (HVp20.out.below HSw7.out).cells 0 _ rfl
      have x1 := (HVp20.out.below HSw7.out).cells 1 _ rfl
      have lx := (HVp20.out.below HSw7.out).lt
      have HDl : Hid (d.lg = dual (th a0 [0, 1, 2])) := Lib.hid (HLd.out.trans (by show dual x.lg = _; rw [HXl.out]))
      have HDr : Hid (d.root = 3) := Lib.hid (HRd.out.trans HXr.out)
      have HDv : Hid (VX d.lg d.root) := Lib.hid (by rw [HLd.out, HRd.out]; exact VX_dual _ _ HXv.out)
      have HUv : Hid (VX u.lg u.root) := Lib.hid (by rw [HLu.out, HRu.out]; exact HCv.out)
      go_wp2_with fail
      refine (HCp2.out d w7 HDl.out HDr.out HDv.out (Ex.below HOkd.out HSw7.out) HB3w7.out).mono ?_
      rintro e w8 ⟨v, rfl, hvp, hvn, bb⟩
      obtain ⟨p24, hp⟩ : ∃ p24, p24 = w8.heap.size := ⟨_, rfl⟩
      obtain ⟨w9, hw⟩ : ∃ w9, w9 = w8.alloc (.cells #[.slice v.nodes.a v.nodes.l.length v.nodes.c, .int .i64 (v.root : Int)] 25) := ⟨_, rfl⟩
      have hbn : Below w8.heap.size w8 w9 := by rw [hw]; exact below_new _ _
      have HVp24 : Hid (Vr w9 p24 (exC v)) := Lib.hid (by rw [hw, hp]; exact Vr.new w8 _ _)
      have HSw9 := Lib.hid (bon bb hbn)
      have HB3w9 := Lib.hid (bon HB3w7.out HSw9.out)
      have HOkv : Hid (v.ok w9) := Lib.hid ((hvn.on hbn).out)
      have HPv : Hid (v.pr = (dual C, (dual C).length - 1)) := Lib.hid hvp
      have HLv : Hid (v.lg = ((dual C, (dual C).length - 1)).1) := Lib.hid (congrArg Prod.fst hvp)
      have HRv : Hid (v.root = ((dual C, (dual C).length - 1)).2) := Lib.hid (congrArg Prod.snd hvp)
      have HWw9 := Lib.hid hw
      have HQw9 := Lib.hid hp
      clear hvp hvn bb hp hw hbn x0 x1 lx
      go_upto_region 18 with fail
      rw [← HWw9.out, ← HQw9.out]
      have x0 := (HVp22.out.below HSw9.out).cells 0 _ rfl
      have x1 := (HVp22.out.below HSw9.out).cells 1 _ rfl
      have lx := (HVp22.out.below HSw9.out).lt
      go_wp2_with fail
      refine (dual_any u w9 HUv.out (Ex.below HOku.out HSw9.out)).mono ?_
      rintro e w10 ⟨r, rfl, hvp, hvn, bb⟩
      obtain ⟨p26, hp⟩ : ∃ p26, p26 = w10.heap.size := ⟨_, rfl⟩
      obtain ⟨w11, hw⟩ : ∃ w11, w11 = w10.alloc (.cells #[.slice r.nodes.a r.nodes.l.length r.nodes.c, .int .i64 (r.root : Int)] 25) := ⟨_, rfl⟩
      have hbn : Below w10.heap.size w10 w11 := by rw [hw]; exact below_new _ _
      have HVp26 : Hid (Vr w11 p26 (exC r)) := Lib.hid (by rw [hw, hp]; exact Vr.new w10 _ _)
      have HSw11 := Lib.hid (bon bb hbn)
      have HB3w11 := Lib.hid (bon HB3w9.out HSw11.out)
      have HOkr : Hid (r.ok w11) := Lib.hid ((hvn.on hbn).out)
      have HPr : Hid (r.pr = (dual u.lg, u.root)) := Lib.hid hvp
      have HLr : Hid (r.lg = ((dual u.lg, u.root)).1) := Lib.hid (congrArg Prod.fst hvp)
      have HRr : Hid (r.root = ((dual u.lg, u.root)).2) := Lib.hid (congrArg Prod.snd hvp)
      have HWw11 := Lib.hid hw
      have HQw11 := Lib.hid hp
      clear hvp hvn bb hp hw hbn x0 x1 lx
      go_upto_region 19 with fail
      rw [← HWw11.out, ← HQw11.out]
      have HRp : Hid (r.pr = v.pr) := Lib.hid (by
        have h1 : u.lg = C := HLu.out
        have h2 : u.root = C.length - 1 := HRu.out
        have h3 : (dual C).length = C.length := by simp [dual]
        rw [HPr.out, HPv.out, h1, h2, h3])
      have HVv : Hid (VX v.lg v.root) := Lib.hid (by
        have h3 : (dual C).length = C.length := by simp [dual]
        rw [HLv.out, HRv.out]
        show VX (dual C) ((dual C).length - 1)
        rw [h3]
        exact VX_dual _ _ HCv.out)
      have HRv' : Hid (VX r.lg r.root) := Lib.hid (by rw [HLr.out, HRr.out]; exact VX_dual _ _ HUv.out)
      have HTt := Lib.hid (HT2.out.below (bon HL3.out HB3w11.out))
      have v0 := (HVp24.out.below HSw11.out).cells 0 _ rfl
      have v1 := (HVp24.out.below HSw11.out).cells 1 _ rfl
      have lv := (HVp24.out.below HSw11.out).lt
      have r0 := HVp26.out.cells 0 _ rfl
      have r1 := HVp26.out.cells 1 _ rfl
      have lr := HVp26.out.lt
      go_wp2_with fail
      refine (equiv_any v r w11 HVv.out HRv'.out (Ex.below HOkv.out HSw11.out) HOkr.out HTt.out).mono ?_
      rintro e w12 ⟨⟨b, rfl, hb⟩, b12⟩
      have hbt : b = true := hb (fun s => by rw [HRp.out])
      subst hbt
      have HB12 := Lib.hid b12
      clear hb b12 v0 v1 lv r0 r1 lr
      have v0 := (HVp22.out.below (bon (bon HSw9.out HSw11.out) HB12.out)).cells 0 _ rfl
      have v1 := (HVp22.out.below (bon (bon HSw9.out HSw11.out) HB12.out)).cells 1 _ rfl
      have lv := (HVp22.out.below (bon (bon HSw9.out HSw11.out) HB12.out)).lt
      have r0 := (HVp26.out.below HB12.out).cells 0 _ rfl
      have r1 := (HVp26.out.below HB12.out).cells 1 _ rfl
      have lr := (HVp26.out.below HB12.out).lt
      go_wp2_with fail
      refine (equiv_any u r w12 HUv.out HRv'.out (Ex.below HOku.out (bon (bon HSw9.out HSw11.out) HB12.out)) (Ex.below HOkr.out HB12.out) (HTt.out.below HB12.out)).mono ?_
      rintro e w13 ⟨⟨b, rfl, hb⟩, b13⟩
      have hfin : od = true → b = true := fun h => hb (fun s => by
        have h1 : u.lg = C := HLu.out
        have h2 : r.pr = u.pr := by rw [HPr.out, h1, HOd2.out h]; show (C, u.root) = (u.lg, u.root); rw [h1]
        rw [h2])
      have HB13 := Lib.hid (bon (bon HB2.out HL3.out) (bon HB3w11.out (bon HB12.out b13)))
      clear hb b13 v0 v1 lv r0 r1 lr
      have h3 : (od = true ∧ b = true) ∨ od = false := by cases od <;> simp_all
      clear hfin
      rcases h3 with ⟨rfl, rfl⟩ | rfl
      · go_wp2_with fail
        go_ret
        exact ⟨rfl, HB13.out⟩
      · cases b <;>
        · go_wp2_with fail
          go_ret
          exact ⟨rfl, HB13.out⟩
end Go.Proofs.YtlklmpcfhnbhgaaDoor
