/- The contract of expr.write. -/
import Derived.Test.YtlklmpcfhnbhgaaDoorCpH
namespace Go.Proofs.YtlklmpcfhnbhgaaDoor
open Go.RowKit

/-- the state of write's loop -/
structure WSt (no : Nat → Prop) (w0 : World) (g : Nat) (x : Ex) (n : Nd) (f : Nat) (ls : List (List Lg × Nat)) (acc : List Lg) (A : Option Addr) (w : World) (j : Nat) (K : Option Addr) (d : Nat) (ks : List Nat) (acc2 : List Lg) (A2 : Option Addr) (c2 : Nat) (ys2 : List Nd) (r2 : Nat) (wr : World) : Prop where
  eq : (n.kids.l.take j).foldl (wstep f x.lg ls) ([], acc) = (ks, acc2)
  kl : ks.length = j
  ot : Ot (fun i => no i ∨ i = w.heap.size ∨ i = w.heap.size + 1 ∨ blk K = some i) w0 g acc2 A2 c2 ys2 r2 wr
  vb : Vr wr w.heap.size (exC x)
  vq : Vr wr (w.heap.size + 1) [.int .i64 (n.kind : Int), .int .i64 (n.server : Int), .int .i64 (n.need : Int), .slice none 0 0, .slice K j d]
  ok : wr.ownsRow (w.heap.size + 2) 3 1 (.slice K j d) j (ks.flatMap nat1)
  ft : Ft g A w wr A2
section
variable {no : Nat → Prop} {w0 : World} {g : Nat} {x : Ex} {n : Nd} {f : Nat} {ls : List (List Lg × Nat)} {acc : List Lg} {A : Option Addr} {w : World} {j : Nat} {K : Option Addr} {d : Nat} {ks : List Nat} {acc2 : List Lg} {A2 : Option Addr} {c2 : Nat} {ys2 : List Nd} {r2 : Nat} {wl w4 w4' w5 : World} {acc4 : List Lg} {A4 : Option Addr} {c4 : Nat} {ys4 : List Nd} {r4 rt gg cap : Nat}
theorem WSt.at_q (h : WSt no w0 g x n f ls acc A w j K d ks acc2 A2 c2 ys2 r2 wl) (hgw : g < w.heap.size) (hft4 : Ft g A2 wl w4 A4) : Vr w4 (w.heap.size + 1) [.int .i64 (n.kind : Int), .int .i64 (n.server : Int), .int .i64 (n.need : Int), .slice none 0 0, .slice K j d] :=
  h.vq.same hft4.size (hft4.keep _ h.vq.lt (by omega) (h.ot.nown _ (.inr (.inr (.inl rfl)))))
theorem WSt.at_b (h : WSt no w0 g x n f ls acc A w j K d ks acc2 A2 c2 ys2 r2 wl) (hgw : g < w.heap.size) (hft4 : Ft g A2 wl w4 A4) : Vr w4 w.heap.size (exC x) :=
  h.vb.same hft4.size (hft4.keep _ h.vb.lt (by omega) (h.ot.nown _ (.inr (.inl rfl))))
theorem WSt.at_k (h : WSt no w0 g x n f ls acc A w j K d ks acc2 A2 c2 ys2 r2 wl) (hgw : g < w.heap.size) (hft4 : Ft g A2 wl w4 A4) : w4.ownsRow (w.heap.size + 2) 3 1 (.slice K j d) j (ks.flatMap nat1) :=
  own_same h.ok (fun b hb => hft4.keep b (h.ok.lt b hb).2 (by have := (h.ok.lt b hb).1; omega) (h.ot.nown _ (.inr (.inr (.inr (by rw [← blk_own K j d]; exact hb))))))
theorem WSt.next (h : WSt no w0 g x n f ls acc A w j K d ks acc2 A2 c2 ys2 r2 wl) (hjl : j < n.kids.l.length) (hgw : g < w.heap.size) (hot4 : Ot (fun i => no i ∨ i = w.heap.size ∨ i = w.heap.size + 1 ∨ blk K = some i) w0 g acc4 A4 c4 ys4 r4 w4) (hft4 : Ft g A2 wl w4 A4)
    (he : acc4 = wr f x.lg n.kids.l[j] ls acc2) (hr : rt = acc4.length - 1) (hba : Below w4.heap.size w4 w4')
    (hown5 : w5.ownsRow (w.heap.size + 2) 3 1 (.slice (some ⟨gg, 0, none⟩) (j + 1) cap) (j + 1) (ks.flatMap nat1 ++ [.int .i64 (rt : Int)])) (hgr5 : w4'.grownBy w5 (blk K)) (hat5 : blk K = some gg ∨ gg = w4'.heap.size) :
    WSt no w0 g x n f ls acc A w (j + 1) (some ⟨gg, 0, none⟩) cap (ks ++ [rt]) acc4 A4 c4 ys4 r4 (w5.setCell ⟨w.heap.size + 1, 4, none⟩ (.slice (some ⟨gg, 0, none⟩) (j + 1) cap)) := by
  have hK : ∀ i, blk K = some i → w.heap.size + 2 ≤ i ∧ i < wl.heap.size := fun i hi => h.ok.lt i (by rw [blk_own]; exact hi)
  have z4 := hft4.size
  have zb := hba.size
  have hlb := h.vb.lt
  have hlq := h.vq.lt
  refine ⟨?_, by rw [List.length_append, h.kl]; rfl, ?_, ?_, ?_, ?_, ?_⟩
  · rw [fold_succ f x.lg ls n.kids.l _ j hjl, h.eq, wstep, ← he, hr]
  · have h1 := hot4.no' (no2 := fun i => (no i ∨ i = w.heap.size ∨ i = w.heap.size + 1 ∨ blk K = some i) ∨ i = w4'.heap.size) (fun i hi => by
      rcases hi with hi | hi
      · exact .inl hi
      · exact .inr (by omega))
    have h2 := (h1.below hba).turn hgr5 (fun i hi => ⟨.inl (.inr (.inr (.inr hi))), by have := (hK i hi).1; omega⟩)
    have h3 := h2.turn (grown_set w5 ⟨w.heap.size + 1, 4, none⟩ (.slice (some ⟨gg, 0, none⟩) (j + 1) cap)) (fun i hi => by
      simp only [Option.some.injEq] at hi
      exact ⟨.inl (.inr (.inr (.inl hi.symm))), by omega⟩)
    refine h3.no' (fun i hi => .inl ?_)
    rcases hi with hi | hi | hi | hi
    · exact .inl (.inl hi)
    · exact .inl (.inr (.inl hi))
    · exact .inl (.inr (.inr (.inl hi)))
    · have hi' : gg = i := by simpa [blk] using hi
      rcases hat5 with k | k
      · exact .inl (.inr (.inr (.inr (by rw [k, hi']))))
      · exact .inr (by rw [← hi', k])
  · exact (((h.at_b hgw hft4).below hba).grown hgr5 (fun e => by have := (hK _ e).1; omega)).grown (grown_set _ _ _) (by simp)
  · exact ((((h.at_q hgw hft4).below hba).grown hgr5 (fun e => by have := (hK _ e).1; omega)).set 4 _).eq rfl
  · have e : (ks ++ [rt]).flatMap nat1 = ks.flatMap nat1 ++ [.int .i64 (rt : Int)] := by rw [List.flatMap_append]; rfl
    rw [e]
    exact own_far hown5 _ _ (by show w.heap.size + 1 < w.heap.size + 2; omega)
  · exact (((h.ft.trans hft4).row (grown_below hba none) (fun _ e => by simp at e)).row hgr5 (fun i e => by have := (hK i e).1; omega)).row (grown_set _ _ _) (fun i e => by simp only [Option.some.injEq] at e; omega)
theorem WSt.done (h : WSt no w0 g x n f ls acc A w n.kids.l.length K d ks acc2 A2 c2 ys2 r2 wl) (hgw : g < w.heap.size) (hno : ∀ i, no i → i < w.heap.size) (hb : Below wl.heap.size wl w4')
    (hown : w5.ownsRow (g + 1) 41 5 (.slice (some ⟨gg, 0, none⟩) (ys2.length + 1) cap) (ys2.length + 1) (ys2.flatMap ndC ++ [.int .i64 (n.kind : Int), .int .i64 (n.server : Int), .int .i64 (n.need : Int), .slice none 0 0, .slice K n.kids.l.length d])) (hgr : w4'.grownBy w5 (blk A2)) (hat : blk A2 = some gg ∨ gg = w4'.heap.size) :
    ∃ ys', Ot no w0 g (acc2 ++ [⟨n.kind, n.server, n.need, ks⟩]) (some ⟨gg, 0, none⟩) cap ys' ((acc2 ++ [(⟨n.kind, n.server, n.need, ks⟩ : Lg)]).length - 1) ((w5.setCell ⟨g, 0, none⟩ (.slice (some ⟨gg, 0, none⟩) (ys2.length + 1) cap)).setCell ⟨g, 1, none⟩ (.int .i64 (ys2.length : Int))) ∧
      Ft g A w ((w5.setCell ⟨g, 0, none⟩ (.slice (some ⟨gg, 0, none⟩) (ys2.length + 1) cap)).setCell ⟨g, 1, none⟩ (.int .i64 (ys2.length : Int))) (some ⟨gg, 0, none⟩) := by
  have hl := h.ot.len
  have hK : ∀ i, blk K = some i → w.heap.size + 2 ≤ i ∧ i < wl.heap.size := fun i hi => h.ok.lt i (by rw [blk_own]; exact hi)
  have hat' : blk (some (⟨gg, 0, none⟩ : Addr)) = blk A2 ∨ blk (some (⟨gg, 0, none⟩ : Addr)) = some w4'.heap.size := by
    rcases hat with k | k
    · exact .inl k.symm
    · exact .inr (by rw [k]; rfl)
  have ho := (h.ot.no' (no2 := no) (fun i hi => .inl (.inl hi))).push (y := ⟨n.kind, n.server, n.need, ⟨K, d, ks⟩⟩) (w3 := w4') (w4 := w5) (A' := some ⟨gg, 0, none⟩) (c' := cap)
    ⟨fun i => blk K = some i, by
      have h9 := own_foot h.ok
      exact h9.imp (fun W hW => by show Rd W 1 K ks.length (ks.flatMap nat1); rw [h.kl]; exact hW),
      fun i hi => ⟨by have := (hK i hi).1; omega, (hK i hi).2, h.ot.nown i (.inr (.inr (.inr hi))), fun hni => by have := hno i hni; have := (hK i hi).1; omega⟩⟩
    hb (fun i hi => by have := hno i hi; have := h.ft.size; omega) (by
      have e : ndC ⟨n.kind, n.server, n.need, ⟨K, d, ks⟩⟩ = [.int .i64 (n.kind : Int), .int .i64 (n.server : Int), .int .i64 (n.need : Int), .slice none 0 0, .slice K n.kids.l.length d] := by simp [ndC, h.kl]
      rw [e]; exact hown) hgr hat'
  refine ⟨ys2 ++ [⟨n.kind, n.server, n.need, ⟨K, d, ks⟩⟩], ?_, ?_⟩
  · rw [List.length_append, List.length_singleton, Nat.add_sub_cancel, ← hl]
    exact ho
  · exact (((h.ft.row (grown_below hb none) (fun _ e => by simp at e)).own hgr hat').set 0 _).set 1 _
end
set_option maxRecDepth 100000 in
set_option maxHeartbeats 8000000 in
theorem write_any (w0 : World) (g : Nat) : ∀ (f : Nat) (no : Nat → Prop) (x : Ex) (i : Nat) (xs : Sl Ex) (acc : List Lg) (A : Option Addr) (c : Nat) (ys : List Nd) (r : Nat) (w : World), x.ok w0 → VX x.lg x.root → Ins w0 xs → wok f x.lg i (xs.l.map Ex.pr) →
    Ot no w0 g acc A c ys r w → (∀ i, no i → i < w.heap.size) → (wr f x.lg i (xs.l.map Ex.pr) acc).length ≤ 1000 →
    Calls Tryd.prog 30 #[.pointer (some ⟨g, 0, none⟩), .agg #[.slice x.nodes.a x.nodes.l.length x.nodes.c, .int .i64 (x.root : Int)], .int .i64 (i : Int), .slice xs.a xs.l.length xs.c] w (WrPost no w0 g (wr f x.lg i (xs.l.map Ex.pr) acc) A w)
  | 0, _, _, _, _, _, _, _, _, _, _, _, _, _, h, _, _, _ => absurd h (by simp [wok])
  | f + 1, no, x, i, xs, acc, A, c, ys, r, w, hok, hvx, hxs, hwk, hot, hno, hlen => by
    obtain ⟨iN, hiN, hzN0, hzN1, hzN2⟩ := info_parts infoN
    have HIN := Lib.hid hiN
    have HZN0 := Lib.hid hzN0
    have HZN1 := Lib.hid hzN1
    have HZN2 := Lib.hid hzN2
    obtain ⟨iI, hiI, hzI0, hzI1, hzI2⟩ := info_parts infoI
    have HII := Lib.hid hiI
    have HZI0 := Lib.hid hzI0
    have HZI1 := Lib.hid hzI1
    have HZI2 := Lib.hid hzI2
    have HIH := Lib.hid (write_any w0 g f)
    obtain ⟨nl, hnl, hways⟩ := hwk
    have hix : i < x.lg.length := (List.getElem?_eq_some_iff.1 hnl).1
    have hix2 : i < x.nodes.l.length := by rwa [Ex.lg_len] at hix
    have hnl2 : nl = x.lg[i] := ((List.getElem?_eq_some_iff.1 hnl).2).symm
    obtain ⟨n, b, o, hn, hA, hb, hrun0, hc⟩ := nd_at hok.1 hix2
    have hrun := fun w' => hrun0 x.nodes.l.length w' hix2
    have hnlg : nl = n.lg := by rw [hnl2, Ex.lg_get x i hix2, ← hn]
    subst hnlg
    have hvl := hvx.each i hix
    rw [← hnl2] at hvl
    obtain ⟨a0, a1, a2, a3, a4⟩ := hc w hot.low
    have hbw : b < w.heap.size := Nat.lt_of_lt_of_le hb hot.low.size
    have hnk : n.ok w0 := by rw [hn]; exact hok.2.2 _ (List.getElem_mem hix2)
    have i0' : (0 : Int) ≤ (i : Int) := by omega
    have i1 : (i : Int) < (x.nodes.l.length : Int) := by omega
    have HOt := Lib.hid hot
    have HNo := Lib.hid hno
    have HXs := Lib.hid hxs
    have HNl := Lib.hid hnl
    have HNk := Lib.hid hnk
    have HVl := Lib.hid hvl
    have HOk := Lib.hid hok
    have HVx := Lib.hid hvx
    have HLen := Lib.hid hlen
    obtain ⟨w2, hw2⟩ : ∃ w2, w2 = (w.alloc (.cells #[.slice x.nodes.a x.nodes.l.length x.nodes.c, .int .i64 (x.root : Int)] 25)).alloc (.cells #[.int .i64 (n.kind : Int), .int .i64 (n.server : Int), .int .i64 (n.need : Int), .slice none 0 0, .slice n.kids.a n.kids.l.length n.kids.c] 41) := ⟨_, rfl⟩
    have HB2 : Hid (Below w.heap.size w w2) := Lib.hid (by rw [hw2]; exact bon (below_new w _) (below_new _ _))
    have HVb : Hid (Vr w2 w.heap.size (exC x)) := Lib.hid (by rw [hw2]; exact (Vr.new w _ _).below (below_new _ _))
    have HVq : Hid (Vr w2 (w.heap.size + 1) (ndC n)) := Lib.hid (by
      rw [hw2]
      have := Vr.new (w.alloc (.cells #[.slice x.nodes.a x.nodes.l.length x.nodes.c, .int .i64 (x.root : Int)] 25)) (ndC n) 41
      rwa [World.size_alloc] at this)
    have HZ2 : Hid (w2.heap.size = w.heap.size + 2) := Lib.hid (by rw [hw2]; simp)
    have HW2 := Lib.hid hw2
    clear hiN hzN0 hzN1 hzN2 hiI hzI0 hzI1 hzI2 hn hA hc hrun0 hnl hnl2 hvl hnk hot hno hxs hok hvx hlen hw2 hix hb hix2
    by_cases hsub : n.kind = 1 ∧ n.server < xs.l.length
    · obtain ⟨hk, hs⟩ := hsub
      have hwy : ∃ y, (xs.l.map Ex.pr)[n.server]? = some y ∧ wok f y.1 y.2 [] := by
        rcases hways with h | h
        · exact h.2
        · exact absurd ⟨hk, by rw [List.length_map]; exact hs⟩ h.1
      obtain ⟨yp, hyp, hyw⟩ := hwy
      have hypp : yp = (xs.l[n.server]).pr := by
        rw [List.getElem?_map, List.getElem?_eq_getElem hs] at hyp
        simpa using hyp.symm
      subst hypp
      have HWr : Hid (wr (f + 1) x.lg i (xs.l.map Ex.pr) acc = wr f (xs.l[n.server]).lg (xs.l[n.server]).root [] acc) := Lib.hid (wr_sub f x.lg i _ acc n.lg _ HNl.out hk hyp)
      have e1 : ((n.kind : Int) == 1) = true := by rw [hk]; rfl
      have d1 : decide (n.server < xs.l.length) = true := decide_eq_true hs
      have s0 : (0 : Int) ≤ (n.server : Int) := by omega
      have s1 : (n.server : Int) < (xs.l.length : Int) := by omega
      obtain ⟨yb, yo, hYA, hyb, hyc⟩ := HXs.out.rd.at exC_len (by omega) hs
      have HYA := Lib.hid hYA
      have hyrun : ∀ w', Sem.run Tryd.prog (Instr.indexAt 30 (.slice xs.a xs.l.length xs.c) (.int .i64 n.server)) w' = .ok (Value.pointer (some ⟨yb, yo + n.server * 2, none⟩)) w' := fun w' => by
        rw [HYA.out]; go_simp
      have hye := HXs.out.each _ (List.getElem_mem hs)
      obtain ⟨y, hy⟩ : ∃ y, y = xs.l[n.server] := ⟨_, rfl⟩
      rw [← hy] at hyc hye HWr hyw
      have y0 : w2.cell? ⟨yb, yo + n.server * 2, none⟩ = some (.slice y.nodes.a y.nodes.l.length y.nodes.c) := by simpa using hyc w2 (bon HOt.out.low HB2.out) 0 _ rfl
      have y1 : w2.cell? ⟨yb, yo + n.server * 2 + 1, none⟩ = some (.int .i64 (y.root : Int)) := hyc w2 (bon HOt.out.low HB2.out) 1 _ rfl
      have HYe := Lib.hid hye
      have HYw := Lib.hid hyw
      clear hYA hyc hye hy hyw hyp hways hk hs
      have q1 := HVq.out.cells 1 _ rfl
      have lq := HVq.out.lt
      have q0 := HVq.out.cells 0 _ rfl
      go_enter Tryd.func30, Tryd.ntmps30
      go_upto_region 2 with fail
      rw [← HW2.out]
      go_wp2_with fail
      go_still_tail 12, (by kernel_rfl)
      change wpList _ _ _ _ _ w2.drew
      have hbd : Below w2.heap.size w2 w2.drew := (Below.refl _ _).drew
      generalize w2.drew = w3 at hbd ⊢
      have HB3 := Lib.hid (bon HB2.out hbd)
      have HC := Lib.hid (HIH.out no y y.root ⟨none, 0, []⟩ acc A c ys r w3 HYe.out.1 HYe.out.2 (ins_nil w0) HYw.out (HOt.out.below HB3.out) (fun k hk => Nat.lt_of_lt_of_le (HNo.out k hk) HB3.out.size) (by have := HLen.out; rw [HWr.out] at this; exact this))
      clear hbd q0 q1 lq
      go_wp2_with fail
      refine HC.out.mono ?_
      rintro e w4 ⟨⟨v4, rfl⟩, A4, c4, ys4, hot4, hft4⟩
      have HO4 := Lib.hid hot4
      have HF4 := Lib.hid hft4
      clear hot4 hft4
      go_wp2_with fail
      refine bodyPost_ret (results_none rfl _ _ _) rfl ⟨⟨_, rfl⟩, A4, c4, ys4, ?_, (Ft.below HB3.out).trans HF4.out⟩
      rw [HWr.out]
      exact HO4.out
    · have hnsub : ¬ (n.lg.kind = 1 ∧ n.lg.server < (xs.l.map Ex.pr).length) := by rw [List.length_map]; exact hsub
      have hkw : ∀ k ∈ n.kids.l, wok f x.lg k (xs.l.map Ex.pr) := by
        rcases hways with h | h
        · obtain ⟨hk, y, hy, _⟩ := h
          exact absurd ⟨hk, (List.getElem?_eq_some_iff.1 hy).1⟩ hnsub
        · exact h.2
      have HKw := Lib.hid hkw
      have HWr : Hid (wr (f + 1) x.lg i (xs.l.map Ex.pr) acc = (n.kids.l.foldl (wstep f x.lg (xs.l.map Ex.pr)) ([], acc)).2 ++ [⟨n.kind, n.server, n.need, (n.kids.l.foldl (wstep f x.lg (xs.l.map Ex.pr)) ([], acc)).1⟩]) := Lib.hid (wr_node f x.lg i _ acc n.lg HNl.out hnsub)
      have HL1 : Hid (∀ j, ((n.kids.l.take j).foldl (wstep f x.lg (xs.l.map Ex.pr)) ([], acc)).2.length ≤ 999) := Lib.hid (fun j => by
        have h1 := HLen.out
        rw [HWr.out, List.length_append] at h1
        have h2 := fold_take f x.lg (xs.l.map Ex.pr) n.kids.l ([], acc) j
        simp only [List.length_singleton] at h1
        omega)
      have hkl : n.kids.l.length ≤ 60 := HVl.out.kid.1
      -- the state ahead of the loop
      obtain ⟨w3, hw3⟩ : ∃ w3, w3 = (w2.setCell ⟨w.heap.size + 1, 4, none⟩ (.slice none 0 0)).setCell ⟨w.heap.size + 1, 3, none⟩ (.slice none 0 0) := ⟨_, rfl⟩
      have hb3 : Below w.heap.size w w3 := by rw [hw3]; exact (HB2.out.setCell (by show w.heap.size ≤ w.heap.size + 1; omega) _).setCell (by show w.heap.size ≤ w.heap.size + 1; omega) _
      have HW0 : Hid (WSt no w0 g x n f (xs.l.map Ex.pr) acc A w 0 none 0 [] acc A c ys r w3) := Lib.hid
        ⟨rfl, rfl, ((HOt.out.no' (no2 := fun i => no i ∨ i = w.heap.size ∨ i = w.heap.size + 1 ∨ blk none = some i) (fun i h => by
            rcases h with h | h | h | h
            · exact .inl h
            · exact .inr (by omega)
            · exact .inr (by omega)
            · simp [blk] at h)).below hb3),
          by rw [hw3]; exact (HVb.out.grown (grown_set _ _ _) (by simp)).grown (grown_set _ _ _) (by simp),
          by rw [hw3]; exact ((HVq.out.set 4 _).set 3 _).eq rfl, World.ownsRow_nil _ _ _ _, Ft.below hb3⟩
      have HW3 := Lib.hid hw3
      clear hways hw3 hb3 hnsub hkw
      have q0 := HVq.out.cells 0 _ rfl
      have q1 := HVq.out.cells 1 _ rfl
      have q3 := HVq.out.cells 3 _ rfl
      have q4 := HVq.out.cells 4 _ rfl
      have f3 := HVq.out.free 3 (by simp [ndC])
      have f4 := HVq.out.free 4 (by simp [ndC])
      have lq := HVq.out.lt
      by_cases hk1 : n.kind = 1
      all_goals
        have d1 : n.kind = 1 → decide (n.server < xs.l.length) = false := fun h => decide_eq_false (fun h2 => hsub ⟨h, h2⟩)
        first
        | (have e1 : ((n.kind : Int) == 1) = true := by rw [hk1]; rfl
           have d2 := d1 hk1)
        | (have e1 : ((n.kind : Int) == 1) = false := by rw [beq_eq_false_iff_ne]; omega)
        clear d1 hsub hk1
        go_enter Tryd.func30, Tryd.ntmps30
        go_upto_region 2 with fail
        rw [← HW2.out]
        go_wp2_with fail
        refine (cloneNil_any _).mono ?_
        rintro e w9 ⟨rfl, rfl⟩
        go_wp2_with fail
        rw [← HW3.out]
        clear q0 q1 q3 q4 f3 f4 lq
        have hgw := HOt.out.v.lt
        go_loopw [49] (fun i wl => ∃ (j : Nat) (K : Option Addr) (d : Nat) (ks : List Nat) (acc2 : List Lg) (A2 : Option Addr) (c2 : Nat) (ys2 : List Nd) (r2 : Nat), i = .int .i64 j ∧ j ≤ n.kids.l.length ∧ WSt no w0 g x n f (xs.l.map Ex.pr) acc A w j K d ks acc2 A2 c2 ys2 r2 wl) (fun i _ => n.kids.l.length - (intOf i).toNat)
        case atStart => exact ⟨0, none, 0, [], acc, A, c, ys, r, rfl, Nat.zero_le _, HW0.out⟩
        case round =>
          rename World => wl
          obtain ⟨j, K, d, ks, acc2, A2, c2, ys2, r2, rfl, hj, hst⟩ := hrel
          have HS := Lib.hid hst
          clear hst
          have b0 := HS.out.vb.cells 0 _ rfl
          have b1 := HS.out.vb.cells 1 _ rfl
          have lb := HS.out.vb.lt
          have lq := HS.out.vq.lt
          by_cases hjl : j < n.kids.l.length
          · have j0' : (0 : Int) ≤ (j : Int) := by omega
            have j1 : (j : Int) < (n.kids.l.length : Int) := by omega
            obtain ⟨kb, ko, hKA, hkb, hkc⟩ := HNk.out.at nat1_len (by omega) hjl
            have HKA := Lib.hid hKA
            have hkrun : ∀ w', Sem.run Tryd.prog (Instr.indexAt 29 (.slice n.kids.a n.kids.l.length n.kids.c) (.int .i64 j)) w' = .ok (Value.pointer (some ⟨kb, ko + j, none⟩)) w' := fun w' => by
              rw [HKA.out]; go_simp
            have k0 : wl.cell? ⟨kb, ko + j, none⟩ = some (.int .i64 (n.kids.l[j] : Int)) := by simpa using hkc wl HS.out.ot.low 0 _ rfl
            have hwl : (wr f x.lg n.kids.l[j] (xs.l.map Ex.pr) acc2).length ≤ 999 := by
              have h9 := HL1.out (j + 1)
              rw [fold_succ f x.lg _ n.kids.l _ j hjl, HS.out.eq] at h9
              exact h9
            have HC := Lib.hid (HIH.out _ x n.kids.l[j] xs acc2 A2 c2 ys2 r2 wl HOk.out HVx.out HXs.out (HKw.out _ (List.getElem_mem hjl)) HS.out.ot (fun k hk => by
              rcases hk with h | h | h | h
              · have := HNo.out k h; have := HS.out.ft.size; omega
              · omega
              · omega
              · exact (HS.out.ok.lt k (by rw [blk_own]; exact h)).2) (by omega))
            obtain ⟨y, hy⟩ : ∃ y, y = n.kids.l[j] := ⟨_, rfl⟩
            have HY := Lib.hid hy
            rw [← hy] at k0 HC hwl
            obtain ⟨acc4, hacc4⟩ : ∃ acc4, acc4 = wr f x.lg y (xs.l.map Ex.pr) acc2 := ⟨_, rfl⟩
            rw [← hacc4] at HC hwl
            have HAc : Hid (acc4 = wr f x.lg n.kids.l[j] (xs.l.map Ex.pr) acc2) := Lib.hid (by rw [hacc4, hy])
            clear hKA hkc hy hacc4
            go_wp2_with fail
            refine HC.out.mono ?_
            rintro e w4 ⟨⟨v4, rfl⟩, A4, c4, ys4, hot4, hft4⟩
            obtain ⟨rt, hrt⟩ : ∃ rt, rt = acc4.length - 1 := ⟨_, rfl⟩
            rw [← hrt] at hot4
            have HRt := Lib.hid hrt
            have HO4 := Lib.hid hot4
            have HF4 := Lib.hid hft4
            have HQ4 := Lib.hid (HS.out.at_q hgw hft4)
            have HK4 := Lib.hid (HS.out.at_k hgw hft4)
            have hkK : ∀ i, blk K = some i → w.heap.size + 2 ≤ i := fun i hi => (HS.out.ok.lt i (by rw [blk_own]; exact hi)).1
            have HkK := Lib.hid hkK
            have hz4 := hft4.size
            clear hrt hot4 hft4 b0 b1 lb lq k0 hkrun hkK
            have s4 := HQ4.out.cells 4 _ rfl
            have l4 := HQ4.out.lt
            have g1 := HO4.out.v.cells 1 _ rfl
            have lg4 := HO4.out.v.lt
            go_wp2_with fail
            go_region_law (refine step_append_lies _ (by rfl) _ _ _ (by rfl) (w.heap.size + 2) 3 iI _ 1 8 Tryd.underlying29 HII.out HZI0.out HZI1.out HZI2.out rfl (by decide) _ _ _ (by rfl) ((HK4.out.alloc _).drew) _ 1 1 [.int .i64 (rt : Int)] (by rfl) (by rfl) (World.news_of_block (cs := #[.int .i64 (rt : Int)]) (t := 3) (fr := (0, 0)) (heap_alloc_new _ _)) (by simp [Value.oneCell']) (by decide) (by simp [maxLen]; omega) (by omega) (by simp; omega) _ rfl ?_; intro gg cap w5 hown5 hgrow5 hat5 hlt5; have hv5 := (HQ4.out.below ((below_new w4 (.cells #[.int .i64 (rt : Int)] 3)).drew)).grown hgrow5 (fun e => by have := HkK.out _ (by rw [← blk_own K j d]; exact e); omega); have c54 := hv5.cells 4 _ rfl; have f54 := hv5.free 4 (by simp); have l54 := hv5.lt)
            all_goals
              have HN := Lib.hid (HS.out.next hjl hgw HO4.out HF4.out HAc.out HRt.out ((below_new w4 (.cells #[.int .i64 (rt : Int)] 3)).drew) hown5 (by rw [← blk_own K j d]; exact hgrow5) (by rw [← blk_own K j d]; exact hat5))
              clear hown5 hgrow5 hat5 hv5
              go_wp2_with fail
              go_roundw
              case rel => exact ⟨j + 1, _, _, _, _, _, _, _, _, by go_num, by omega, HN.out⟩
              case measure => simp [intOf]; omega
          · obtain rfl : j = n.kids.l.length := by omega
            have q0 := HS.out.vq.cells 0 _ rfl
            have q1 := HS.out.vq.cells 1 _ rfl
            have q2 := HS.out.vq.cells 2 _ rfl
            have q3 := HS.out.vq.cells 3 _ rfl
            have q4 := HS.out.vq.cells 4 _ rfl
            have g0 := HS.out.ot.v.cells 0 _ rfl
            have lg2 := HS.out.ot.v.lt
            have hyl : ys2.length ≤ 999 := by
              have h9 := HL1.out n.kids.l.length
              rw [HS.out.eq] at h9
              rw [HS.out.ot.len]; exact h9
            have HNo2 : Hid (∀ i, blk A2 = some i → g < i) := Lib.hid (fun i e => (HS.out.ot.own.lt i (by rw [blk_own]; exact e)).1)
            go_wp2_with fail
            go_region_law (refine step_append_lies _ (by rfl) _ _ _ (by rfl) (g + 1) 41 iN _ 5 72 Tryd.underlying23 HIN.out HZN0.out HZN1.out HZN2.out rfl (by decide) _ _ _ (by rfl) ((HS.out.ot.own.alloc _).drew) _ 1 1 [.int .i64 (n.kind : Int), .int .i64 (n.server : Int), .int .i64 (n.need : Int), .slice none 0 0, .slice K n.kids.l.length d] (by rfl) (by rfl) (World.news_of_block (cs := #[.int .i64 (n.kind : Int), .int .i64 (n.server : Int), .int .i64 (n.need : Int), .slice none 0 0, .slice K n.kids.l.length d]) (t := 41) (fr := (0, 0)) (heap_alloc_new _ _)) (by simp [Value.oneCell']) (by decide) (by simp [maxLen]; omega) (by omega) (by simp; omega) _ rfl ?_; intro gg cap w5 hown5 hgrow5 hat5 hlt5; have hv5 := (HS.out.ot.v.below ((below_new wl (.cells #[.int .i64 (n.kind : Int), .int .i64 (n.server : Int), .int .i64 (n.need : Int), .slice none 0 0, .slice K n.kids.l.length d] 41)).drew)).grown hgrow5 (fun e => by have := HNo2.out _ (by rw [← blk_own A2 ys2.length c2]; exact e); omega); have c50 := hv5.cells 0 _ rfl; have f50 := hv5.free 0 (by simp); have c51 := hv5.cells 1 _ rfl; have f51 := hv5.free 1 (by simp); have l54 := hv5.lt)
            all_goals
              have HD := Lib.hid (HS.out.done hgw HNo.out ((below_new wl (.cells #[.int .i64 (n.kind : Int), .int .i64 (n.server : Int), .int .i64 (n.need : Int), .slice none 0 0, .slice K n.kids.l.length d] 41)).drew) hown5 (by rw [← blk_own A2 ys2.length c2]; exact hgrow5) (by rw [← blk_own A2 ys2.length c2]; exact hat5))
              have HWr2 : Hid (wr (f + 1) x.lg i (xs.l.map Ex.pr) acc = acc2 ++ [⟨n.kind, n.server, n.need, ks⟩]) := Lib.hid (by
                have h9 := HS.out.eq
                rw [List.take_length] at h9
                rw [HWr.out, h9])
              clear hown5 hgrow5 hat5 hv5 q0 q1 q2 q3 q4 g0 b0 b1
              go_wp2_with fail
              obtain ⟨ys', ho', hf'⟩ := HD.out
              refine bodyPost_ret (results_none rfl _ _ _) rfl ⟨⟨_, rfl⟩, some ⟨gg, 0, none⟩, cap, ys', ?_, hf'⟩
              rw [HWr2.out]
              exact ho'
end Go.Proofs.YtlklmpcfhnbhgaaDoor
