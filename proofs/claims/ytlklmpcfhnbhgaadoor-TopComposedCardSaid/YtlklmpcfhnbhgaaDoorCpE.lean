/- The contracts of expr.servers, expr.holds. -/
import Derived.Test.YtlklmpcfhnbhgaaDoorCpD
namespace Go.Proofs.YtlklmpcfhnbhgaaDoor
open Go.RowKit

def RetU16 (w : World) (e : Ending) (w' : World) : Prop := (∃ v : Nat, v < 65536 ∧ e = .returned (.int .u16 (v : Int))) ∧ Below w.heap.size w w'
def RetBool (b : Bool) (w : World) (e : Ending) (w' : World) : Prop := e = .returned (.bool b) ∧ Below w.heap.size w w'
theorem u16_wrap (e : Int) : ∃ v : Nat, v < 65536 ∧ IntKind.u16.wrap e = (v : Int) := by
  have h := wrap_within .u16 e
  simp only [IntKind.min, IntKind.max, IntKind.signed, IntKind.bits] at h
  exact ⟨(IntKind.u16.wrap e).toNat, by simp at h; omega, by simp at h; omega⟩
theorem or_u16 (a b : Int) : ∃ v : Nat, v < 65536 ∧ bits .or .u16 a b = (v : Int) := u16_wrap _
/-- the array of what holds -/
def arrB (acc : List Bool) : List Value := acc.map (fun b => Value.bool b) ++ List.replicate (60 - acc.length) (.bool false)
theorem arrB_len (acc : List Bool) (h : acc.length ≤ 60) : (arrB acc).length = 60 := by simp [arrB]; omega
theorem arrB_get (acc : List Bool) (k : Nat) (h : acc.length ≤ 60) (hk : k < 60) : (arrB acc)[k]? = some (.bool (acc.getD k false)) := by
  unfold arrB
  rcases Nat.lt_or_ge k acc.length with h1 | h1
  · rw [List.getElem?_append_left (by simpa using h1)]
    simp [h1]
  · rw [List.getElem?_append_right (by simpa using h1), List.length_map, List.getElem?_replicate, if_pos (by omega)]
    simp [h1]
theorem arrB_set (acc : List Bool) (b : Bool) (h : acc.length < 60) : (arrB acc).set acc.length (.bool b) = arrB (acc ++ [b]) := by
  unfold arrB
  rw [List.set_append_right _ _ (by simp), List.length_map, Nat.sub_self, List.map_append, List.append_assoc]
  congr 1
  rw [List.length_append, List.length_singleton, show 60 - acc.length = (60 - (acc.length + 1)) + 1 from by omega, List.replicate_succ]
  rfl
theorem holds_snoc (s : Nat) (l : List Lg) (n : Lg) : holds s (l ++ [n]) = holds s l ++ [holdN s (holds s l) n] := by simp [holds]
theorem holds_len (s : Nat) (l : List Lg) : (holds s l).length = l.length := by
  have h : ∀ (r : List Lg) (a : List Bool), (r.foldl (fun acc n => acc ++ [holdN s acc n]) a).length = a.length + r.length := fun r => by
    induction r with
    | nil => simp
    | cons x r ih => intro a; rw [List.foldl_cons, ih]; simp; omega
  simpa [holds] using h l []
theorem holds_take (s : Nat) (l : List Lg) (k : Nat) (h : k < l.length) : holds s (l.take (k + 1)) = holds s (l.take k) ++ [holdN s (holds s (l.take k)) l[k]] := by
  rw [List.take_succ_eq_append_getElem h, holds_snoc]
/-- how many of the first kids hold -/
def cntK (acc : List Bool) (ks : List Nat) : Nat := ks.foldl (fun c k => if acc.getD k false then c + 1 else c) 0
theorem cntK_take (acc : List Bool) (ks : List Nat) (j : Nat) (h : j < ks.length) : cntK acc (ks.take (j + 1)) = if acc.getD ks[j] false then cntK acc (ks.take j) + 1 else cntK acc (ks.take j) := by
  unfold cntK
  rw [List.take_succ_eq_append_getElem h, List.foldl_append]; rfl
theorem cntK_le (acc : List Bool) (ks : List Nat) : cntK acc ks ≤ ks.length := by
  have h : ∀ (r : List Nat) (a : Nat), r.foldl (fun c k => if acc.getD k false then c + 1 else c) a ≤ a + r.length := fun r => by
    induction r with
    | nil => simp
    | cons x r ih => intro a; rw [List.foldl_cons]; refine Nat.le_trans (ih _) ?_; split <;> simp <;> omega
  simpa [cntK] using h ks 0
/-- a node of the nodes' row -/
theorem nd_at {w : World} {x : Ex} (hr : Rd w 5 x.nodes.a x.nodes.l.length (x.nodes.l.flatMap ndC)) {k : Nat} (hk : k < x.nodes.l.length) : ∃ (n : Nd) (b o : Nat), n = x.nodes.l[k] ∧ x.nodes.a = some ⟨b, o, none⟩ ∧ b < w.heap.size ∧
    (∀ (m : Nat) w', k < m → Sem.run Tryd.prog (Instr.indexAt 23 (.slice x.nodes.a m x.nodes.c) (.int .i64 k)) w' = .ok (Value.pointer (some ⟨b, o + k * 5, none⟩)) w') ∧
    ∀ w', Below w.heap.size w w' → w'.cell? ⟨b, o + k * 5, none⟩ = some (.int .i64 (n.kind : Int)) ∧ w'.cell? ⟨b, o + k * 5 + 1, none⟩ = some (.int .i64 (n.server : Int)) ∧ w'.cell? ⟨b, o + k * 5 + 2, none⟩ = some (.int .i64 (n.need : Int)) ∧
      w'.cell? ⟨b, o + k * 5 + 3, none⟩ = some (.slice none 0 0) ∧ w'.cell? ⟨b, o + k * 5 + 4, none⟩ = some (.slice n.kids.a n.kids.l.length n.kids.c) := by
  obtain ⟨b, o, hA, hb, hc⟩ := hr.at ndC_len (by omega) hk
  refine ⟨x.nodes.l[k], b, o, rfl, hA, hb, fun m w' hm => ?_, fun w' hw => ⟨by simpa using hc w' hw 0 _ rfl, hc w' hw 1 _ rfl, hc w' hw 2 _ rfl, hc w' hw 3 _ rfl, hc w' hw 4 _ rfl⟩⟩
  have i0' : (0 : Int) ≤ (k : Int) := by omega
  have i1 : (k : Int) < (m : Int) := by omega
  rw [hA]
  go_simp
set_option maxRecDepth 100000 in
set_option maxHeartbeats 2000000 in
theorem exServers_any (x : Ex) (w : World) (hv : VX x.lg x.root) (hok : x.ok w) : Calls Tryd.prog 19 #[.agg #[.slice x.nodes.a x.nodes.l.length x.nodes.c, .int .i64 (x.root : Int)]] w (RetU16 w) := by
  have HR := Lib.hid hok.1
  have HE := Lib.hid hv.each
  have n1 := hv.le
  rw [Ex.lg_len] at n1
  have HB0 := Lib.hid (below_new w (.cells #[.slice x.nodes.a x.nodes.l.length x.nodes.c, .int .i64 (x.root : Int)] 25))
  clear hv hok
  go_enter Tryd.func19, Tryd.ntmps19
  go_wp2_with fail
  go_loopw [3, 9] (fun s i wr => ∃ (k v : Nat), i = .int .i64 k ∧ s = .int .u16 (v : Int) ∧ v < 65536 ∧ k ≤ x.nodes.l.length ∧ Below w.heap.size w wr) (fun _ i _ => x.nodes.l.length - (intOf i).toNat)
  case atStart => exact ⟨0, 0, rfl, rfl, by decide, by omega, HB0.out⟩
  case round =>
    obtain ⟨k, v, rfl, rfl, hvl, hk, hbl⟩ := hrel
    have HB := Lib.hid hbl
    clear hbl
    by_cases hlt : k < x.nodes.l.length
    · have i0' : (0 : Int) ≤ (k : Int) := by omega
      have i1 : (k : Int) < (x.nodes.l.length : Int) := by omega
      obtain ⟨n, b, o, hn, hA, hb, hrun0, hc⟩ := nd_at HR.out hlt
      have hrun := fun w' => hrun0 x.nodes.l.length w' hlt
      clear hrun0
      obtain ⟨a0, a1, a2, a3, a4⟩ := hc wr HB.out
      have hsv := (HE.out k (by rw [Ex.lg_len]; exact hlt)).srv
      rw [Ex.lg_get x k hlt, ← hn] at hsv
      replace hsv : n.server < 12 := hsv
      have s0 : (0 : Int) ≤ (n.server : Int) := by omega
      clear hc hA hn
      have HB1 := Lib.hid (bon HB.out (below_new wr (.cells #[.int .i64 (n.kind : Int), .int .i64 (n.server : Int), .int .i64 (n.need : Int), .slice none 0 0, .slice n.kids.a n.kids.l.length n.kids.c] 41)))
      by_cases hk1 : n.kind = 1
      · have e1 : ((n.kind : Int) == 1) = true := by rw [hk1]; rfl
        clear hk1
        go_wp2_with fail
        obtain ⟨v2, hv2, e2⟩ := or_u16 (v : Int) (IntKind.u16.wrap (2 ^ n.server))
        go_roundw
        case rel => exact ⟨k + 1, v2, by go_num, by rw [e2], hv2, by omega, HB1.out⟩
        case measure => simp [intOf]; omega
      · have e1 : ((n.kind : Int) == 1) = false := by rw [beq_eq_false_iff_ne]; omega
        clear hk1
        go_wp2_with fail
        go_roundw
        case rel => exact ⟨k + 1, v, by go_num, rfl, hvl, by omega, HB1.out⟩
        case measure => simp [intOf]; omega
    · obtain rfl : k = x.nodes.l.length := by omega
      go_wp2_with fail
      go_ret
      exact ⟨⟨v, hvl, rfl⟩, HB.out⟩
set_option maxRecDepth 100000 in
set_option maxHeartbeats 4000000 in
theorem holds_any (x : Ex) (s : Nat) (w : World) (hv : VX x.lg x.root) (hok : x.ok w) (_hs : s < 65536) : Calls Tryd.prog 20 #[.agg #[.slice x.nodes.a x.nodes.l.length x.nodes.c, .int .i64 (x.root : Int)], .int .u16 (s : Int)] w (RetBool (hold s x.pr) w) := by
  have HR := Lib.hid hok.1
  have HK := Lib.hid hok.2.2
  have hcap := hok.2.1
  have HE := Lib.hid hv.each
  have n1 := hv.le
  have n2 := hv.root
  rw [Ex.lg_len] at n1 n2
  obtain ⟨w1, hw1⟩ : ∃ w1, w1 = w.alloc (.cells #[.slice x.nodes.a x.nodes.l.length x.nodes.c, .int .i64 (x.root : Int)] 25) := ⟨_, rfl⟩
  have hb1 : Below w.heap.size w w1 := by rw [hw1]; exact below_new w _
  have hz1 : w1.heap.size = w.heap.size + 1 := by rw [hw1]; simp
  have hv1 : Vr w1 w.heap.size [.slice x.nodes.a x.nodes.l.length x.nodes.c, .int .i64 (x.root : Int)] := by rw [hw1]; exact Vr.new w _ _
  have HB0 := Lib.hid (bon hb1 (below_new w1 (.cells (arrB []).toArray 67)))
  have HX0 := Lib.hid (hv1.below (below_new w1 (.cells (arrB []).toArray 67)))
  have HA0 : Hid (Vr (w1.alloc (.cells (arrB []).toArray 67)) (w.heap.size + 1) (arrB [])) := Lib.hid (by have := Vr.new w1 (arrB []) 67; rwa [hz1] at this)
  have HW1 := Lib.hid hw1
  clear hv hok hw1 hb1 hz1 hv1
  go_enter Tryd.func20, Tryd.ntmps20
  go_upto_region 2 with fail
  change Code.wp _ _ _ _ ((w.alloc (.cells #[.slice x.nodes.a x.nodes.l.length x.nodes.c, .int .i64 (x.root : Int)] 25)).alloc (.cells (arrB []).toArray 67))
  rw [← HW1.out]
  obtain ⟨w2, hw2⟩ : ∃ w2, w2 = w1.alloc (.cells (arrB []).toArray 67) := ⟨_, rfl⟩
  rw [← hw2] at HB0 HX0 HA0 ⊢
  clear hw2
  have c0 := HX0.out.cells 0 _ rfl
  have c1 := HX0.out.cells 1 _ rfl
  have l0 := HX0.out.lt
  have i2 : (x.root : Int) + 1 ≤ (x.nodes.c : Int) := by omega
  have hlk : (x.lg.take (x.root + 1)).length = x.root + 1 := by rw [List.length_take, Ex.lg_len]; omega
  have HLk := Lib.hid hlk
  clear hlk
  go_wp2_with fail
  clear c0 c1 l0 i2
  go_loopw [18] (fun i wr => ∃ k : Nat, i = .int .i64 k ∧ k ≤ x.root + 1 ∧ Vr wr w.heap.size [.slice x.nodes.a x.nodes.l.length x.nodes.c, .int .i64 (x.root : Int)] ∧ Vr wr (w.heap.size + 1) (arrB (holds s (x.lg.take k))) ∧ Below w.heap.size w wr) (fun i _ => x.root + 1 - (intOf i).toNat)
  case atStart => exact ⟨0, rfl, by omega, HX0.out, HA0.out, HB0.out⟩
  case round =>
    obtain ⟨k, rfl, hk, hvx, hva, hbl⟩ := hrel
    have HX := Lib.hid hvx
    have HA := Lib.hid hva
    have HB := Lib.hid hbl
    clear hvx hva hbl
    by_cases hlt : k < x.root + 1
    · have i0' : (0 : Int) ≤ (k : Int) := by omega
      have i1 : (k : Int) < (x.root : Int) + 1 := by omega
      have i60 : (k : Int) < 60 := by omega
      have hlt2 : k < x.nodes.l.length := by omega
      obtain ⟨n, b, o, hn, hA, hb, hrun0, hc⟩ := nd_at HR.out hlt2
      have hrun := fun w' => hrun0 (x.root + 1) w' hlt
      obtain ⟨a0, a1, a2, a3, a4⟩ := hc wr HB.out
      have hvl := HE.out k (by rw [Ex.lg_len]; exact hlt2)
      have htk := holds_take s x.lg k (by rw [Ex.lg_len]; exact hlt2)
      rw [Ex.lg_get x k hlt2, ← hn] at hvl htk
      have hacc : (holds s (x.lg.take k)).length = k := by rw [holds_len, List.length_take, Ex.lg_len]; omega
      obtain ⟨acc, hac⟩ : ∃ acc, acc = holds s (x.lg.take k) := ⟨_, rfl⟩
      rw [← hac] at HA htk hacc
      have HTk := Lib.hid htk
      have hnk : n.ok w := by rw [hn]; exact HK.out _ (List.getElem_mem hlt2)
      have HNk := Lib.hid hnk
      have HVl := Lib.hid hvl
      have HAcc := Lib.hid hacc
      have s0 : (0 : Int) ≤ (n.server : Int) := by omega
      have HBn := Lib.hid (below_new wr (.cells #[.int .i64 (n.kind : Int), .int .i64 (n.server : Int), .int .i64 (n.need : Int), .slice none 0 0, .slice n.kids.a n.kids.l.length n.kids.c] 41))
      have ck := HA.out.cells k _ (arrB_get acc k (by omega) (by omega))
      have fk := HA.out.free k (by rw [arrB_len acc (by omega)]; omega)
      have lA := HA.out.lt
      clear hc hn hA hac htk hacc hnk hrun0
      by_cases hk1 : n.kind = 1
      · have e1 : ((n.kind : Int) == 1) = true := by rw [hk1]; rfl
        have HH : Hid (holds s (x.lg.take (k + 1)) = acc ++ [bitB s n.server]) := Lib.hid (by
          rw [HTk.out]
          have : holdN s acc n.lg = bitB s n.server := by unfold holdN; rw [if_pos (show n.lg.kind = 1 from hk1)]; rfl
          rw [this])
        have HBs := Lib.hid (below_new (wr.setCell ⟨w.heap.size + 1, k, none⟩ (.bool (bitB s n.server))) (.cells #[.int .i64 (n.kind : Int), .int .i64 (n.server : Int), .int .i64 (n.need : Int), .slice none 0 0, .slice n.kids.a n.kids.l.length n.kids.c] 41))
        have HSx := Lib.hid ((HX.out.grown (grown_set wr ⟨w.heap.size + 1, k, none⟩ (.bool (bitB s n.server))) (by simp)).below HBs.out)
        have HSa := Lib.hid ((HA.out.set k (.bool (bitB s n.server))).below HBs.out)
        have HSb := Lib.hid ((HB.out.setCell (p := ⟨w.heap.size + 1, k, none⟩) (by show w.heap.size ≤ w.heap.size + 1; omega) (.bool (bitB s n.server))).alloc (by have := HB.out.size; simpa using this) (.cells #[.int .i64 (n.kind : Int), .int .i64 (n.server : Int), .int .i64 (n.need : Int), .slice none 0 0, .slice n.kids.a n.kids.l.length n.kids.c] 41))
        clear hk1 hvl
        go_wp2_with fail
        go_roundw
        case rel => exact ⟨k + 1, by go_num, by omega, HSx.out, HSa.out.eq (by rw [HH.out, ← arrB_set acc _ (by have := HAcc.out; omega), HAcc.out]), HSb.out⟩
        case measure => simp [intOf]; omega
      · have hk2 : n.kind = 2 := by
          rcases hvl with h | h
          · exact absurd h.1 hk1
          · exact h.1
        have e1 : ((n.kind : Int) == 1) = false := by rw [hk2]; rfl
        have hkl : n.kids.l.length ≤ 60 := HVl.out.kid.1
        have HH : Hid (holds s (x.lg.take (k + 1)) = acc ++ [decide (n.need ≤ cntK acc n.kids.l)]) := Lib.hid (by
          rw [HTk.out]
          have : holdN s acc n.lg = decide (n.need ≤ cntK acc n.kids.l) := by unfold holdN; rw [if_neg (show ¬ n.lg.kind = 1 from hk1)]; rfl
          rw [this])
        have hneed : n.need ≤ 100000 := by
          rcases HVl.out with h | h
          · exact absurd h.1 hk1
          · exact h.2.2.1
        clear hk1 hvl hk2
        go_wp2_with fail
        obtain ⟨wn, hwn⟩ : ∃ wn, wn = wr.alloc (.cells #[.int .i64 (n.kind : Int), .int .i64 (n.server : Int), .int .i64 (n.need : Int), .slice none 0 0, .slice n.kids.a n.kids.l.length n.kids.c] 41) := ⟨_, rfl⟩
        obtain ⟨q, hq⟩ : ∃ q, q = wr.heap.size := ⟨_, rfl⟩
        have HXn : Hid (Vr wn w.heap.size [.slice x.nodes.a x.nodes.l.length x.nodes.c, .int .i64 (x.root : Int)]) := Lib.hid (by rw [hwn]; exact HX.out.below HBn.out)
        have HAn : Hid (Vr wn (w.heap.size + 1) (arrB acc)) := Lib.hid (by rw [hwn]; exact HA.out.below HBn.out)
        have HNn : Hid (Vr wn q (ndC n)) := Lib.hid (by rw [hwn, hq]; exact Vr.new wr _ _)
        have HBw : Hid (Below w.heap.size w wn) := Lib.hid (by rw [hwn]; exact bon HB.out HBn.out)
        have hq2 : w.heap.size + 1 < q := by have := HA.out.lt; omega
        rw [← hwn, ← hq]
        clear hwn hq HBn HX HA HB ck fk lA a0 a1 a2 a3 a4 hrun
        go_loopw [8, 37] (fun c i w2 => ∃ j : Nat, i = .int .i64 j ∧ j ≤ n.kids.l.length ∧ c = .int .i64 (cntK acc (n.kids.l.take j) : Nat) ∧ Vr w2 w.heap.size [.slice x.nodes.a x.nodes.l.length x.nodes.c, .int .i64 (x.root : Int)] ∧ Vr w2 (w.heap.size + 1) (arrB acc) ∧ Vr w2 q (ndC n) ∧ Below w.heap.size w w2) (fun _ i _ => n.kids.l.length - (intOf i).toNat)
        case atStart => exact ⟨0, rfl, Nat.zero_le _, rfl, HXn.out, HAn.out, HNn.out, HBw.out⟩
        case round =>
          rename World => w2
          obtain ⟨j, rfl, hj, rfl, hx2, ha2, hn2, hb2⟩ := hrel
          have HX2 := Lib.hid hx2
          have HA2 := Lib.hid ha2
          have HN2 := Lib.hid hn2
          have HB2 := Lib.hid hb2
          clear hx2 ha2 hn2 hb2
          have hcl := cntK_le acc (n.kids.l.take j)
          rw [List.length_take] at hcl
          by_cases hjl : j < n.kids.l.length
          · have j0' : (0 : Int) ≤ (j : Int) := by omega
            have j1 : (j : Int) < (n.kids.l.length : Int) := by omega
            obtain ⟨kb, ko, hKA, hkb, hkc⟩ := HNk.out.at nat1_len (by omega) hjl
            have HKA := Lib.hid hKA
            have hrun : ∀ w', Sem.run Tryd.prog (Instr.indexAt 29 (.slice n.kids.a n.kids.l.length n.kids.c) (.int .i64 j)) w' = .ok (Value.pointer (some ⟨kb, ko + j, none⟩)) w' := fun w' => by
              rw [HKA.out]; go_simp
            have b0 : w2.cell? ⟨kb, ko + j, none⟩ = some (.int .i64 (n.kids.l[j] : Int)) := by simpa using hkc w2 HB2.out 0 _ rfl
            have hkid := HVl.out.kid.2 n.kids.l[j] (List.getElem_mem hjl)
            have HCt := Lib.hid (cntK_take acc n.kids.l j hjl)
            obtain ⟨y, hy⟩ : ∃ y, y = n.kids.l[j] := ⟨_, rfl⟩
            rw [← hy] at b0 hkid HCt
            have y0 : (0 : Int) ≤ (y : Int) := by omega
            have y60 : (y : Int) < 60 := by omega
            have cy := HA2.out.cells y _ (arrB_get acc y (by have := HAcc.out; omega) (by omega))
            have lA2 := HA2.out.lt
            clear hKA hkc hy
            cases hg : acc.getD y false with
            | false =>
              have HCf : Hid (cntK acc (n.kids.l.take (j + 1)) = cntK acc (n.kids.l.take j)) := Lib.hid (by rw [HCt.out, hg]; rfl)
              rw [hg] at cy
              clear hg
              go_wp2_with fail
              go_roundw
              case rel => exact ⟨j + 1, by go_num, by omega, by rw [HCf.out], HX2.out, HA2.out, HN2.out, HB2.out⟩
              case measure => simp [intOf]; omega
            | true =>
              have HCf : Hid (cntK acc (n.kids.l.take (j + 1)) = cntK acc (n.kids.l.take j) + 1) := Lib.hid (by rw [HCt.out, hg]; rfl)
              rw [hg] at cy
              have n0 := HN2.out.cells 0 _ rfl
              have n1' := HN2.out.cells 1 _ rfl
              have n2' := HN2.out.cells 2 _ rfl
              have n3 := HN2.out.cells 3 _ rfl
              have n4 := HN2.out.cells 4 _ rfl
              have lN2 := HN2.out.lt
              clear hg
              go_wp2_with fail
              refine (weight_any n j w2).mono ?_
              rintro e w3 ⟨rfl, b3⟩
              have HX3 := Lib.hid (HX2.out.below b3)
              have HA3 := Lib.hid (HA2.out.below b3)
              have HN3 := Lib.hid (HN2.out.below b3)
              have HB3 := Lib.hid (bon HB2.out b3)
              clear b3
              go_wp2_with fail
              go_roundw
              case rel => exact ⟨j + 1, by go_num, by omega, by rw [HCf.out]; go_num, HX3.out, HA3.out, HN3.out, HB3.out⟩
              case measure => simp [intOf]; omega
          · obtain rfl : j = n.kids.l.length := by omega
            rw [List.take_length]
            have n2' := HN2.out.cells 2 _ rfl
            have lN2 := HN2.out.lt
            have i60' : (k : Int) < 60 := by omega
            have ck := HA2.out.cells k _ (arrB_get acc k (by have := HAcc.out; omega) (by omega))
            have fk := HA2.out.free k (by rw [arrB_len acc (by have := HAcc.out; omega)]; omega)
            have lA2 := HA2.out.lt
            have HSx := Lib.hid (HX2.out.grown (grown_set w2 ⟨w.heap.size + 1, k, none⟩ (.bool (decide (n.need ≤ cntK acc n.kids.l)))) (by simp))
            have HSa := Lib.hid (HA2.out.set k (.bool (decide (n.need ≤ cntK acc n.kids.l))))
            have HSb := Lib.hid (HB2.out.setCell (p := ⟨w.heap.size + 1, k, none⟩) (by show w.heap.size ≤ w.heap.size + 1; omega) (.bool (decide (n.need ≤ cntK acc n.kids.l))))
            go_wp2_with fail
            go_roundw
            case rel => exact ⟨k + 1, by go_num, by omega, HSx.out, HSa.out.eq (by rw [HH.out, ← arrB_set acc _ (by have := HAcc.out; omega), HAcc.out]), HSb.out⟩
            case measure => simp [intOf]; omega
    · obtain rfl : k = x.root + 1 := by omega
      have c1 := HX.out.cells 1 _ rfl
      have l0 := HX.out.lt
      have i0' : (0 : Int) ≤ (x.root : Int) := by omega
      have i60 : (x.root : Int) < 60 := by omega
      have hacc : (holds s (x.lg.take (x.root + 1))).length ≤ 60 := by rw [holds_len, List.length_take]; omega
      have ck := HA.out.cells x.root _ (arrB_get _ x.root hacc (by omega))
      have lA := HA.out.lt
      clear hacc
      go_wp2_with fail
      go_ret
      exact ⟨rfl, HB.out⟩
end Go.Proofs.YtlklmpcfhnbhgaaDoor
