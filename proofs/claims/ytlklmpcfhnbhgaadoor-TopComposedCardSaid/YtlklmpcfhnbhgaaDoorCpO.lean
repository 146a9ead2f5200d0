/- The contracts of build.Compose's closure and of slices.ContainsFunc over it; a nodes' row that is stored into. -/
import Derived.Test.YtlklmpcfhnbhgaaDoorCpN
import Derived.Laws.OwnMore
namespace Go.Proofs.YtlklmpcfhnbhgaaDoor
open Go.RowKit

set_option maxRecDepth 100000 in
set_option maxHeartbeats 1000000 in
theorem big_any (n : Nd) (b m c : Nat) (A : Option Addr) (w : World) (hb : w.cell? ⟨b, 0, none⟩ = some (.slice A m c)) (hl : b < w.heap.size) (hn : n.kind = 1 → n.server < m) :
    Calls Tryd.prog 15 #[.agg #[.int .i64 (n.kind : Int), .int .i64 (n.server : Int), .int .i64 (n.need : Int), .slice none 0 0, .slice n.kids.a n.kids.l.length n.kids.c], .pointer (some ⟨b, 0, none⟩)] w (fun e w' => e = .returned (.bool false) ∧ Below w.heap.size w w') := by
  have HB := Lib.hid (below_new w (.cells #[.int .i64 (n.kind : Int), .int .i64 (n.server : Int), .int .i64 (n.need : Int), .slice none 0 0, .slice n.kids.a n.kids.l.length n.kids.c] 41))
  by_cases h1 : n.kind = 1
  · have e1 : ((n.kind : Int) == 1) = true := by rw [h1]; rfl
    have d1 : decide (m ≤ n.server) = false := by have := hn h1; rw [decide_eq_false_iff_not]; omega
    clear h1 hn
    go_enter Tryd.func15, Tryd.ntmps15
    go_wp2_with fail
    go_ret
    exact ⟨rfl, HB.out⟩
  · have e1 : ((n.kind : Int) == 1) = false := by rw [beq_eq_false_iff_ne]; omega
    clear h1 hn
    go_enter Tryd.func15, Tryd.ntmps15
    go_wp2_with fail
    go_ret
    exact ⟨rfl, HB.out⟩
set_option maxRecDepth 100000 in
set_option maxHeartbeats 2000000 in
theorem idxBig_any (x : Ex) (b m c : Nat) (A : Option Addr) (w : World) (hx : x.ok w) (hv : VX x.lg x.root) (hb : w.cell? ⟨b, 0, none⟩ = some (.slice A m c)) (hl : b < w.heap.size) (hn : ∀ n ∈ x.lg, n.kind = 1 → n.server < m) :
    Calls Tryd.prog 26 #[.slice x.nodes.a x.nodes.l.length x.nodes.c, .func (.func 15) #[] #[.pointer (some ⟨b, 0, none⟩)]] w (fun e w' => e = .returned (.int .i64 (-1)) ∧ Below w.heap.size w w') := by
  have HR := Lib.hid hx.1
  have n1 := hv.le
  rw [Ex.lg_len] at n1
  have HN := Lib.hid hn
  have HB0 := Lib.hid hb
  clear hx hv hn hb
  go_enter Tryd.func26, Tryd.ntmps26
  go_wp2_with fail
  go_loopw [8] (fun i wr => ∃ k : Nat, i = .int .i64 k ∧ k ≤ x.nodes.l.length ∧ Below w.heap.size w wr) (fun i _ => x.nodes.l.length - (intOf i).toNat)
  case atStart => exact ⟨0, rfl, by omega, Below.refl _ _⟩
  case round =>
    obtain ⟨k, rfl, hk, hbr⟩ := hrel
    have HBr := Lib.hid hbr
    clear hbr
    by_cases hlt : k < x.nodes.l.length
    · have i0' : (0 : Int) ≤ (k : Int) := by omega
      have i1 : (k : Int) < (x.nodes.l.length : Int) := by omega
      obtain ⟨n, nb, o, hne, hA, hnb, hrun0, hc⟩ := nd_at HR.out hlt
      have hrun := fun w' => hrun0 x.nodes.l.length w' hlt
      obtain ⟨a0, a1, a2, a3, a4⟩ := hc wr HBr.out
      have HC := Lib.hid (big_any n b m c A wr ((HBr.out.cell (p := ⟨b, 0, none⟩) hl).trans HB0.out) (Nat.lt_of_lt_of_le hl HBr.out.size) (fun h => HN.out n.lg (by rw [hne]; exact List.mem_map.2 ⟨_, List.getElem_mem hlt, rfl⟩) h))
      clear hA hc hne hrun0
      go_wp2_with fail
      refine HC.out.mono ?_
      rintro e w3 ⟨rfl, b3⟩
      have HB3 := Lib.hid (bon HBr.out b3)
      clear b3
      go_wp2_with fail
      go_roundw
      case rel => exact ⟨k + 1, by go_num, by omega, HB3.out⟩
      case measure => simp [intOf]; omega
    · obtain rfl : k = x.nodes.l.length := by omega
      go_wp2_with fail
      go_ret
      exact ⟨rfl, HBr.out⟩
set_option maxRecDepth 100000 in
set_option maxHeartbeats 2000000 in
theorem contBig_any (x : Ex) (b m c : Nat) (A : Option Addr) (w : World) (hx : x.ok w) (hv : VX x.lg x.root) (hb : w.cell? ⟨b, 0, none⟩ = some (.slice A m c)) (hl : b < w.heap.size) (hn : ∀ n ∈ x.lg, n.kind = 1 → n.server < m) :
    Calls Tryd.prog 14 #[.slice x.nodes.a x.nodes.l.length x.nodes.c, .func (.func 15) #[] #[.pointer (some ⟨b, 0, none⟩)]] w (fun e w' => e = .returned (.bool false) ∧ Below w.heap.size w w') := by
  have H := Lib.hid (idxBig_any x b m c A w hx hv hb hl hn)
  clear hx hv hb hn
  go_enter Tryd.func14, Tryd.ntmps14
  go_wp2_with fail
  refine H.out.mono ?_
  rintro e w2 ⟨rfl, b2⟩
  have HB := Lib.hid b2
  clear b2
  go_wp2_with fail
  go_ret
  exact ⟨rfl, HB.out⟩
theorem flat_set {α : Type} (C : α → List Value) (m : Nat) (hC : ∀ x, (C x).length = m) : ∀ (l : List α) (k : Nat) (h : k < l.length) (j : Nat) (_hj : j < m) (v : Value) (x : α) (_hx : C x = (C l[k]).set j v), (l.flatMap C).set (k * m + j) v = (l.set k x).flatMap C
  | [], k, h, _, _, _, _, _ => by simp at h
  | y :: r, 0, _, j, hj, v, x, hx => by
    simp only [List.flatMap_cons, List.set_cons_zero, Nat.zero_mul, Nat.zero_add]
    rw [List.set_append_left _ _ (by rw [hC]; exact hj), hx]; rfl
  | y :: r, k + 1, h, j, hj, v, x, hx => by
    simp only [List.flatMap_cons, List.set_cons_succ]
    rw [List.set_append_right _ _ (by rw [hC, Nat.succ_mul]; omega), hC, show (k + 1) * m + j - m = k * m + j from by rw [Nat.succ_mul]; omega]
    rw [flat_set C m hC r k (by simpa using h) j hj v x (by simpa using hx)]
def ndMv (b : Nat) (n : Nd) : Nd := if n.kind = 1 then { n with server := n.server + b } else n
def lgMv (b : Nat) (n : Lg) : Lg := if n.kind = 1 then { n with server := n.server + b } else n
theorem ndMv_lg (b : Nat) (n : Nd) : (ndMv b n).lg = lgMv b n.lg := by
  unfold ndMv lgMv
  by_cases h : n.kind = 1
  · rw [if_pos h, if_pos (show n.lg.kind = 1 from h)]; rfl
  · rw [if_neg h, if_neg (show ¬ n.lg.kind = 1 from h)]
theorem mv_map (b : Nat) (l : List Lg) : mv b l = l.map (lgMv b) := rfl
/-- the nodes when the first k have been moved -/
def mvTo (b k : Nat) (l : List Nd) : List Nd := (l.take k).map (ndMv b) ++ l.drop k
theorem mvTo_len (b k : Nat) (l : List Nd) : (mvTo b k l).length = l.length := by simp [mvTo]; omega
theorem mvTo_get (b k : Nat) (l : List Nd) (h : k < l.length) : (mvTo b k l)[k]'(by rw [mvTo_len]; exact h) = l[k] := by
  unfold mvTo
  rw [List.getElem_append_right (by simp; omega)]
  simp [Nat.min_eq_left (Nat.le_of_lt h)]
theorem mvTo_succ (b k : Nat) (l : List Nd) (h : k < l.length) : (mvTo b k l).set k (ndMv b l[k]) = mvTo b (k + 1) l := by
  have e1 : ((l.take k).map (ndMv b)).length = k := by rw [List.length_map, List.length_take]; omega
  unfold mvTo
  rw [List.set_append_right _ _ (by omega), e1, Nat.sub_self, List.drop_eq_getElem_cons h, List.set_cons_zero, List.take_succ_eq_append_getElem h, List.map_append, List.append_assoc]
  rfl
theorem mvTo_skip (b k : Nat) (l : List Nd) (h : k < l.length) (hk : ¬ l[k].kind = 1) : mvTo b k l = mvTo b (k + 1) l := by
  rw [← mvTo_succ b k l h]
  have : ndMv b l[k] = (mvTo b k l)[k]'(by rw [mvTo_len]; exact h) := by rw [mvTo_get b k l h]; unfold ndMv; rw [if_neg hk]
  rw [this, List.set_getElem_self]
theorem mvTo_all (b : Nat) (l : List Nd) : mvTo b l.length l = l.map (ndMv b) := by simp [mvTo]
theorem ndMv_kids (b : Nat) (n : Nd) : (ndMv b n).kids = n.kids := by unfold ndMv; split <;> rfl
theorem cnt_snoc (l : List Lg) (k : Nat) (h : k < l.length) : (l.take (k + 1)).foldl cnt1 0 = cnt1 ((l.take k).foldl cnt1 0) l[k] := by
  rw [List.take_succ_eq_append_getElem h, List.foldl_append]; rfl
theorem mvs_snoc : ∀ (b : Nat) (l : List (List Lg × Nat)) (y : List Lg × Nat), mvs b (l ++ [y]) = mvs b l ++ [(mv (b + tot l) y.1, y.2)]
  | b, [], y => by simp [mvs, tot]
  | b, z :: r, y => by
    rw [List.cons_append, mvs, mvs, mvs_snoc (b + cnt z.1) r y]
    simp [tot, Nat.add_assoc]
theorem tot_snoc (l : List (List Lg × Nat)) (y : List Lg × Nat) : tot (l ++ [y]) = tot l + cnt y.1 := by simp [tot]
theorem cnt_ge : ∀ (l : List Lg) (c : Nat), c ≤ l.foldl cnt1 c ∧ ∀ n ∈ l, n.kind = 1 → n.server < l.foldl cnt1 c
  | [], c => ⟨Nat.le_refl _, by simp⟩
  | m :: r, c => by
    obtain ⟨h1, h2⟩ := cnt_ge r (cnt1 c m)
    rw [List.foldl_cons]
    have h3 : c ≤ cnt1 c m := by unfold cnt1; split <;> omega
    refine ⟨by omega, fun n hn hk => ?_⟩
    rcases List.mem_cons.1 hn with rfl | hn
    · have : n.server + 1 ≤ cnt1 c n := by unfold cnt1; rw [if_pos hk]; omega
      omega
    · exact h2 n hn hk
/-- moved expressions are valid -/
theorem mv_vx (b : Nat) (l : List Lg) (r : Nat) (h : VX l r) (hb : b + cnt l ≤ 12) : VX (mv b l) r := by
  have hl : (mv b l).length = l.length := by simp [mv]
  refine ⟨by rw [hl]; exact h.pos, by rw [hl]; exact h.le, by rw [hl]; exact h.root, fun i hi => ?_⟩
  have hi' : i < l.length := by rw [hl] at hi; exact hi
  have hv := h.each i hi'
  have e : (mv b l)[i] = lgMv b l[i] := by simp [mv_map]
  rw [e]
  by_cases hk : l[i].kind = 1
  · have hs := (cnt_ge l 0).2 l[i] (List.getElem_mem hi') hk
    rcases hv with ⟨v1, v2, v3, v4⟩ | ⟨v1, _⟩
    · left
      unfold lgMv
      rw [if_pos hk]
      exact ⟨v1, v2, v3, by show l[i].server + b < 12; unfold cnt at hb; omega⟩
    · rw [v1] at hk; exact absurd hk (by decide)
  · unfold lgMv
    rw [if_neg hk]
    exact hv
theorem mvs_len : ∀ (b : Nat) (l : List (List Lg × Nat)), (mvs b l).length = l.length
  | _, [] => rfl
  | b, y :: r => by rw [mvs, List.length_cons, mvs_len, List.length_cons]
theorem tot_take (l : List (List Lg × Nat)) (j : Nat) : tot (l.take j) ≤ tot l := by
  have h : tot l = tot (l.take j) + tot (l.drop j) := by
    unfold tot
    rw [← List.sum_append, ← List.map_append, List.take_append_drop]
  omega
theorem mvs_vx : ∀ (b : Nat) (l : List (List Lg × Nat)), (∀ y ∈ l, VX y.1 y.2) → b + tot l ≤ 12 → ∀ y ∈ mvs b l, VX y.1 y.2
  | _, [], _, _, y, hy => by simp [mvs] at hy
  | b, z :: r, h, hb, y, hy => by
    have ht : tot (z :: r) = cnt z.1 + tot r := by simp [tot]
    rw [mvs] at hy
    rcases List.mem_cons.1 hy with rfl | hy
    · exact mv_vx b z.1 z.2 (h z (by simp)) (by omega)
    · exact mvs_vx (b + cnt z.1) r (fun q hq => h q (by simp [hq])) (by omega) y hy
theorem nd_foot {n : Nd} {w w2 : World} (h : n.ok w) (hb : Below w.heap.size w w2) : Foot (fun i => i < w.heap.size) n.ok w2 := by
  intro W hs hk
  refine ⟨h.len, fun hj => ?_⟩
  obtain ⟨b, o, e, hl, hc⟩ := h.cells hj
  refine ⟨b, o, e, by have := hb.size; omega, fun j u hu => ?_⟩
  have h1 : W.heap[b]? = w.heap[b]? := (hk b hl).trans (hb.block b hl)
  exact (World.cell?_of_block (a := ⟨b, o + j, none⟩) h1).trans (hc j u hu)
/-- a moved copy: its own row, and kids' rows that stood before -/
theorem mv_foot {y : Ex} {w wx : World} {T gc cc base : Nat} (hy : y.ok w) (hb : Below w.heap.size w wx) (ho : wx.ownsRow base 41 5 (.slice (some ⟨gc, 0, none⟩) y.nodes.l.length cc) y.nodes.l.length ((y.nodes.l.map (ndMv T)).flatMap ndC)) :
    Foot (fun i => i = gc ∨ i < w.heap.size) (Ex.ok ⟨⟨some ⟨gc, 0, none⟩, cc, y.nodes.l.map (ndMv T)⟩, y.root⟩) wx := by
  have hc : y.nodes.l.length ≤ cc := by
    rcases ho.2 with ⟨h, h0⟩ | ⟨g', cap', cur, h, _, _, h2, _⟩
    · simp at h
    · injection h with h3 h4 h5; omega
  intro W hs hk
  refine ⟨?_, by show (y.nodes.l.map (ndMv T)).length ≤ cc; rw [List.length_map]; exact hc, fun n hn => ?_⟩
  · show Rd W 5 (some ⟨gc, 0, none⟩) (y.nodes.l.map (ndMv T)).length _
    rw [List.length_map]
    exact own_foot ho W hs (fun i hi => hk i (.inl (by simpa [blk] using hi.symm)))
  · obtain ⟨n0, hn0, rfl⟩ := List.mem_map.1 hn
    have h9 : n0.ok W := nd_foot (hy.2.2 n0 hn0) hb W hs (fun i hi => hk i (.inr hi))
    show Rd W 1 (ndMv T n0).kids.a (ndMv T n0).kids.l.length ((ndMv T n0).kids.l.flatMap nat1)
    rw [ndMv_kids]
    exact h9
end Go.Proofs.YtlklmpcfhnbhgaaDoor
