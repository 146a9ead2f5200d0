/- The contracts of expr.size and of its closures. -/
import Derived.Test.YtlklmpcfhnbhgaaDoorCpE
namespace Go.Proofs.YtlklmpcfhnbhgaaDoor
open Go.RowKit

def RetNat (v : Nat) (w : World) (e : Ending) (w' : World) : Prop := e = .returned (.int .i64 (v : Int)) ∧ Below w.heap.size w w'
/-- the array of sizes -/
def arrI (acc : List Nat) : List Value := acc.map (fun (b : Nat) => Value.int .i64 (b : Int)) ++ List.replicate (60 - acc.length) (.int .i64 0)
theorem arrI_len (acc : List Nat) (h : acc.length ≤ 60) : (arrI acc).length = 60 := by simp [arrI]; omega
theorem arrI_get (acc : List Nat) (k : Nat) (h : acc.length ≤ 60) (hk : k < 60) : (arrI acc)[k]? = some (.int .i64 (acc.getD k 0 : Nat)) := by
  unfold arrI
  rcases Nat.lt_or_ge k acc.length with h1 | h1
  · rw [List.getElem?_append_left (by simpa using h1)]
    simp [h1]
  · rw [List.getElem?_append_right (by simpa using h1), List.length_map, List.getElem?_replicate, if_pos (by omega)]
    simp [h1]
theorem arrI_set (acc : List Nat) (b : Nat) (h : acc.length < 60) : (arrI acc).set acc.length (.int .i64 (b : Int)) = arrI (acc ++ [b]) := by
  unfold arrI
  rw [List.set_append_right _ _ (by simp), List.length_map, Nat.sub_self, List.map_append, List.append_assoc]
  congr 1
  rw [List.length_append, List.length_singleton, show 60 - acc.length = (60 - (acc.length + 1)) + 1 from by omega, List.replicate_succ]
  rfl
theorem arrI_set2 (acc : List Nat) (a b : Nat) (h : acc.length < 60) : (arrI (acc ++ [a])).set acc.length (.int .i64 (b : Int)) = arrI (acc ++ [b]) := by
  rw [← arrI_set acc a h, List.set_set, arrI_set acc b h]
theorem szs_snoc (sv : Nat → Nat) (l : List Lg) (n : Lg) : szs sv (l ++ [n]) = szs sv l ++ [szOf sv (szs sv l) n] := by simp [szs]
theorem szs_len (sv : Nat → Nat) (l : List Lg) : (szs sv l).length = l.length := by
  have h : ∀ (r : List Lg) (a : List Nat), (r.foldl (fun acc n => acc ++ [szOf sv acc n]) a).length = a.length + r.length := fun r => by
    induction r with
    | nil => simp
    | cons x r ih => intro a; rw [List.foldl_cons, ih]; simp; omega
  simpa [szs] using h l []
theorem szs_take (sv : Nat → Nat) (l : List Lg) (k : Nat) (h : k < l.length) : szs sv (l.take (k + 1)) = szs sv (l.take k) ++ [szOf sv (szs sv (l.take k)) l[k]] := by
  rw [List.take_succ_eq_append_getElem h, szs_snoc]
/-- the size of a node by its first kids -/
def szK (acc : List Nat) (ks : List Nat) : Nat := ks.foldl (fun s k => min 61 (s + acc.getD k 0)) 1
theorem szK_take (acc : List Nat) (ks : List Nat) (j : Nat) (h : j < ks.length) : szK acc (ks.take (j + 1)) = min 61 (szK acc (ks.take j) + acc.getD ks[j] 0) := by
  unfold szK
  rw [List.take_succ_eq_append_getElem h, List.foldl_append]; rfl
theorem szK_le (acc : List Nat) (ks : List Nat) : szK acc ks ≤ 61 := by
  have h : ∀ (r : List Nat) (a : Nat), a ≤ 61 → r.foldl (fun s k => min 61 (s + acc.getD k 0)) a ≤ 61 := fun r => by
    induction r with
    | nil => intro a ha; exact ha
    | cons x r ih => intro a _; rw [List.foldl_cons]; exact ih _ (Nat.min_le_left _ _)
  exact h ks 1 (by decide)
theorem szOf_le (sv : Nat → Nat) (hs : ∀ i, sv i ≤ 61) (acc : List Nat) (n : Lg) : szOf sv acc n ≤ 61 := by
  have h : ∀ (r : List Nat) (a : Nat), a ≤ 61 → r.foldl (fun s k => min 61 (s + acc.getD k 0)) a ≤ 61 := fun r => by
    induction r with
    | nil => intro a ha; exact ha
    | cons x r ih => intro a _; rw [List.foldl_cons]; exact ih _ (Nat.min_le_left _ _)
  unfold szOf
  refine h _ _ ?_
  split
  · exact hs _
  · decide
theorem szs_le (sv : Nat → Nat) (hs : ∀ i, sv i ≤ 61) (l : List Lg) : ∀ i, (szs sv l).getD i 0 ≤ 61 := by
  have h : ∀ (r : List Lg) (a : List Nat), (∀ i, a.getD i 0 ≤ 61) → ∀ i, (r.foldl (fun acc n => acc ++ [szOf sv acc n]) a).getD i 0 ≤ 61 := fun r => by
    induction r with
    | nil => intro a ha; exact ha
    | cons x r ih =>
      intro a ha
      rw [List.foldl_cons]
      refine ih _ (fun i => ?_)
      rcases Nat.lt_or_ge i a.length with h1 | h1
      · have := ha i
        simp only [List.getD_eq_getElem?_getD] at this ⊢
        rw [List.getElem?_append_left h1]; exact this
      · simp only [List.getD_eq_getElem?_getD]
        rw [List.getElem?_append_right h1]
        rcases Nat.eq_zero_or_pos (i - a.length) with h2 | h2
        · rw [h2]; exact szOf_le sv hs a x
        · rw [List.getElem?_eq_none (by simp; omega)]; decide
  exact h l [] (by simp)
set_option maxRecDepth 100000 in
set_option maxHeartbeats 1000000 in
theorem one_any (i : Nat) (w : World) : Calls Tryd.prog 27 (#[.int .i64 (i : Int)] ++ #[]) w (RetNat 1 w) := by
  have HB := Lib.hid (Below.refl w.heap.size w)
  simp only [Array.append_empty]
  go_enter Tryd.func27, Tryd.ntmps27
  go_wp2_with fail
  go_ret
  exact ⟨rfl, HB.out⟩
set_option maxRecDepth 100000 in
set_option maxHeartbeats 4000000 in
theorem sizeOne_any (x : Ex) (w : World) (hv : VX x.lg x.root) (hok : x.ok w) (hs61 : ∀ i, (sv1) i ≤ 61)
    (hcl : ∀ (i : Nat) (W : World), Below w.heap.size w W → Calls Tryd.prog 27 (#[.int .i64 (i : Int)] ++ #[]) W (RetNat ((sv1) i) W)) :
    Calls Tryd.prog 28 #[.agg #[.slice x.nodes.a x.nodes.l.length x.nodes.c, .int .i64 (x.root : Int)], .func (.func 27) #[] #[]] w (RetNat ((szs (sv1) (x.lg.take (x.root + 1))).getD x.root 0) w) := by
  have HR := Lib.hid hok.1
  have HK := Lib.hid hok.2.2
  have hcap := hok.2.1
  have HE := Lib.hid hv.each
  have HCl := Lib.hid hcl
  have H61 := Lib.hid hs61
  have n1 := hv.le
  have n2 := hv.root
  rw [Ex.lg_len] at n1 n2
  obtain ⟨w1, hw1⟩ : ∃ w1, w1 = w.alloc (.cells #[.slice x.nodes.a x.nodes.l.length x.nodes.c, .int .i64 (x.root : Int)] 25) := ⟨_, rfl⟩
  have hb1 : Below w.heap.size w w1 := by rw [hw1]; exact below_new w _
  have hz1 : w1.heap.size = w.heap.size + 1 := by rw [hw1]; simp
  have hv1 : Vr w1 w.heap.size [.slice x.nodes.a x.nodes.l.length x.nodes.c, .int .i64 (x.root : Int)] := by rw [hw1]; exact Vr.new w _ _
  have HB0 := Lib.hid (bon hb1 (below_new w1 (.cells (arrI []).toArray 70)))
  have HX0 := Lib.hid (hv1.below (below_new w1 (.cells (arrI []).toArray 70)))
  have HA0 : Hid (Vr (w1.alloc (.cells (arrI []).toArray 70)) (w.heap.size + 1) (arrI [])) := Lib.hid (by have := Vr.new w1 (arrI []) 70; rwa [hz1] at this)
  have HW1 := Lib.hid hw1
  clear hv hok hw1 hb1 hz1 hv1 hcl hs61
  go_enter Tryd.func28, Tryd.ntmps28
  go_upto_region 2 with fail
  change Code.wp _ _ _ _ ((w.alloc (.cells #[.slice x.nodes.a x.nodes.l.length x.nodes.c, .int .i64 (x.root : Int)] 25)).alloc (.cells (arrI []).toArray 70))
  rw [← HW1.out]
  obtain ⟨w2, hw2⟩ : ∃ w2, w2 = w1.alloc (.cells (arrI []).toArray 70) := ⟨_, rfl⟩
  rw [← hw2] at HB0 HX0 HA0 ⊢
  clear hw2
  have c0 := HX0.out.cells 0 _ rfl
  have c1 := HX0.out.cells 1 _ rfl
  have l0 := HX0.out.lt
  have i2 : (x.root : Int) + 1 ≤ (x.nodes.c : Int) := by omega
  go_wp2_with fail
  clear c0 c1 l0 i2
  go_loopw [17] (fun i wr => ∃ k : Nat, i = .int .i64 k ∧ k ≤ x.root + 1 ∧ Vr wr w.heap.size [.slice x.nodes.a x.nodes.l.length x.nodes.c, .int .i64 (x.root : Int)] ∧ Vr wr (w.heap.size + 1) (arrI (szs (sv1) (x.lg.take k))) ∧ Below w.heap.size w wr) (fun i _ => x.root + 1 - (intOf i).toNat)
  case atStart => exact ⟨0, rfl, by omega, HX0.out, HA0.out, HB0.out⟩
  case round =>
    obtain ⟨k, rfl, hk, hvx, hva, hbl⟩ := hrel
    have HX := Lib.hid hvx
    have HA := Lib.hid hva
    have HB := Lib.hid hbl
    clear hvx hva hbl
    by_cases hlt : k < x.root + 1
    · have i0' : (0 : Int) ≤ (k : Int) := by omega
      have i1 : (k : Int) < (x.root : Int) + 1 := by omega
      have i60 : (k : Int) < 60 := by omega
      have hlt2 : k < x.nodes.l.length := by omega
      obtain ⟨n, b, o, hn, hA, hb, hrun0, hc⟩ := nd_at HR.out hlt2
      have hrun := fun w' => hrun0 (x.root + 1) w' hlt
      obtain ⟨a0, a1, a2, a3, a4⟩ := hc wr HB.out
      have hvl := HE.out k (by rw [Ex.lg_len]; exact hlt2)
      have htk := szs_take (sv1) x.lg k (by rw [Ex.lg_len]; exact hlt2)
      rw [Ex.lg_get x k hlt2, ← hn] at hvl htk
      have hacc : (szs (sv1) (x.lg.take k)).length = k := by rw [szs_len, List.length_take, Ex.lg_len]; omega
      have H61a := Lib.hid (szs_le (sv1) H61.out (x.lg.take k))
      obtain ⟨acc, hac⟩ : ∃ acc, acc = szs (sv1) (x.lg.take k) := ⟨_, rfl⟩
      rw [← hac] at HA htk hacc H61a
      have HTk := Lib.hid htk
      have hnk : n.ok w := by rw [hn]; exact HK.out _ (List.getElem_mem hlt2)
      have HNk := Lib.hid hnk
      have HVl := Lib.hid hvl
      have HAcc := Lib.hid hacc
      have ck := HA.out.cells k _ (arrI_get acc k (by omega) (by omega))
      have fk := HA.out.free k (by rw [arrI_len acc (by omega)]; omega)
      have lA := HA.out.lt
      -- behind 'l[i] = 1'
      have HBs := Lib.hid (below_new (wr.setCell ⟨w.heap.size + 1, k, none⟩ (.int .i64 1)) (.cells #[.int .i64 (n.kind : Int), .int .i64 (n.server : Int), .int .i64 (n.need : Int), .slice none 0 0, .slice n.kids.a n.kids.l.length n.kids.c] 41))
      obtain ⟨wn, hwn⟩ : ∃ wn, wn = (wr.setCell ⟨w.heap.size + 1, k, none⟩ (.int .i64 1)).alloc (.cells #[.int .i64 (n.kind : Int), .int .i64 (n.server : Int), .int .i64 (n.need : Int), .slice none 0 0, .slice n.kids.a n.kids.l.length n.kids.c] 41) := ⟨_, rfl⟩
      have HXn : Hid (Vr wn w.heap.size [.slice x.nodes.a x.nodes.l.length x.nodes.c, .int .i64 (x.root : Int)]) := Lib.hid (by rw [hwn]; exact (HX.out.grown (grown_set wr ⟨w.heap.size + 1, k, none⟩ (.int .i64 1)) (by simp)).below HBs.out)
      have HAn : Hid (Vr wn (w.heap.size + 1) (arrI (acc ++ [1]))) := Lib.hid (by
        rw [hwn]
        refine ((HA.out.set k (.int .i64 1)).below HBs.out).eq ?_
        have := arrI_set acc 1 (by omega)
        rw [hacc] at this
        exact this)
      have HNn : Hid (Vr wn wr.heap.size (ndC n)) := Lib.hid (by rw [hwn]; have := Vr.new (wr.setCell ⟨w.heap.size + 1, k, none⟩ (.int .i64 1)) (ndC n) 41; rwa [World.size_setCell] at this)
      have HBw : Hid (Below w.heap.size w wn) := Lib.hid (by rw [hwn]; exact bon (HB.out.setCell (p := ⟨w.heap.size + 1, k, none⟩) (by show w.heap.size ≤ w.heap.size + 1; omega) (.int .i64 1)) HBs.out)
      have HWn := Lib.hid hwn
      clear hc hn hA hac htk hacc hnk hrun0 hwn HBs
      by_cases hk1 : n.kind = 1
      · have e1 : ((n.kind : Int) == 1) = true := by rw [hk1]; rfl
        have hks : n.kids.l = [] := by
          rcases HVl.out with h | h
          · exact h.2.2.1
          · exact absurd (hk1.symm.trans h.1) (by decide)
        have HH : Hid (szs (sv1) (x.lg.take (k + 1)) = acc ++ [(sv1) n.server]) := Lib.hid (by
          rw [HTk.out]
          have : szOf (sv1) acc n.lg = (sv1) n.server := by
            unfold szOf
            rw [show n.lg.kids = [] from hks, if_pos (show n.lg.kind = 1 from hk1)]; rfl
          rw [this])
        have hkl : n.kids.l.length = 0 := by rw [hks]; rfl
        have HKl := Lib.hid hkl
        clear hk1 hvl hks hkl
        go_upto_region 7 with fail
        rw [← HWn.out]
        have q1 := HNn.out.cells 1 _ rfl
        have lq := HNn.out.lt
        have HC : Hid (Calls Tryd.prog 27 #[.int .i64 (n.server : Int)] wn (RetNat ((sv1) n.server) wn)) := Lib.hid (by simpa using HCl.out n.server wn HBw.out)
        clear ck fk lA a0 a1 a2 a3 a4 hrun
        go_wp2_with fail
        refine HC.out.mono ?_
        rintro e w3 ⟨rfl, b3⟩
        have HX3 := Lib.hid (HXn.out.below b3)
        have HA3 := Lib.hid (HAn.out.below b3)
        have HN3 := Lib.hid (HNn.out.below b3)
        have HB3 := Lib.hid (bon HBw.out b3)
        have hal : (acc ++ [1]).length ≤ 60 := by have := HAcc.out; simp; omega
        have ck := HA3.out.cells k _ (arrI_get (acc ++ [1]) k hal (by omega))
        have fk := HA3.out.free k (by rw [arrI_len _ hal]; omega)
        have lA := HA3.out.lt
        have q4 := HN3.out.cells 4 _ rfl
        rw [HKl.out] at q4
        have lq3 := HN3.out.lt
        have hne : wr.heap.size ≠ w.heap.size + 1 := by have := HA.out.lt; omega
        have HSx := Lib.hid (HX3.out.grown (grown_set w3 ⟨w.heap.size + 1, k, none⟩ (.int .i64 ((sv1) n.server : Nat))) (by simp))
        have HSa : Hid (Vr (w3.setCell ⟨w.heap.size + 1, k, none⟩ (.int .i64 ((sv1) n.server : Nat))) (w.heap.size + 1) (arrI (szs (sv1) (x.lg.take (k + 1))))) := Lib.hid ((HA3.out.set k (.int .i64 ((sv1) n.server : Nat))).eq (by
          rw [HH.out]
          have := arrI_set2 acc 1 ((sv1) n.server) (by have := HAcc.out; omega)
          rw [HAcc.out] at this
          exact this))
        have HSb := Lib.hid (HB3.out.setCell (p := ⟨w.heap.size + 1, k, none⟩) (by show w.heap.size ≤ w.heap.size + 1; omega) (.int .i64 ((sv1) n.server : Nat)))
        clear b3 hal q1 lq
        go_wp2_with fail
        go_loop [36] (fun i => i = .int .i64 0) (fun _ => 0)
        case atStart => rfl
        case round =>
          subst hrel
          go_wp2_with fail
          go_roundw
          case rel => exact ⟨k + 1, by go_num, by omega, HSx.out, HSa.out, HSb.out⟩
          case measure => simp [intOf]; omega
      · have hk2 : n.kind = 2 := by
          rcases hvl with h | h
          · exact absurd h.1 hk1
          · exact h.1
        have e1 : ((n.kind : Int) == 1) = false := by rw [hk2]; rfl
        have hkl : n.kids.l.length ≤ 60 := HVl.out.kid.1
        have HH : Hid (szs (sv1) (x.lg.take (k + 1)) = acc ++ [szK acc n.kids.l]) := Lib.hid (by
          rw [HTk.out]
          have : szOf (sv1) acc n.lg = szK acc n.kids.l := by unfold szOf szK; rw [if_neg (show ¬ n.lg.kind = 1 from hk1)]; rfl
          rw [this])
        clear hk1 hvl hk2
        go_upto_region 8 with fail
        rw [← HWn.out]
        have q4 := HNn.out.cells 4 _ rfl
        have lq := HNn.out.lt
        have lAr := HA.out.lt
        clear ck fk lA a0 a1 a2 a3 a4 hrun
        go_wp2_with fail
        go_loopw [36] (fun i w2 => ∃ j : Nat, i = .int .i64 j ∧ j ≤ n.kids.l.length ∧ Vr w2 w.heap.size [.slice x.nodes.a x.nodes.l.length x.nodes.c, .int .i64 (x.root : Int)] ∧ Vr w2 (w.heap.size + 1) (arrI (acc ++ [szK acc (n.kids.l.take j)])) ∧ Below w.heap.size w w2) (fun i _ => n.kids.l.length - (intOf i).toNat)
        case atStart => exact ⟨0, rfl, Nat.zero_le _, HXn.out, HAn.out, HBw.out⟩
        case round =>
          rename World => w2
          obtain ⟨j, rfl, hj, hx2, ha2, hb2⟩ := hrel
          have HX2 := Lib.hid hx2
          have HA2 := Lib.hid ha2
          have HB2 := Lib.hid hb2
          clear hx2 ha2 hb2
          have hal : (acc ++ [szK acc (n.kids.l.take j)]).length ≤ 60 := by have := HAcc.out; simp; omega
          by_cases hjl : j < n.kids.l.length
          · have j0' : (0 : Int) ≤ (j : Int) := by omega
            have j1 : (j : Int) < (n.kids.l.length : Int) := by omega
            obtain ⟨kb, ko, hKA, hkb, hkc⟩ := HNk.out.at nat1_len (by omega) hjl
            have HKA := Lib.hid hKA
            have hrun : ∀ w', Sem.run Tryd.prog (Instr.indexAt 29 (.slice n.kids.a n.kids.l.length n.kids.c) (.int .i64 j)) w' = .ok (Value.pointer (some ⟨kb, ko + j, none⟩)) w' := fun w' => by
              rw [HKA.out]; go_simp
            have b0 : w2.cell? ⟨kb, ko + j, none⟩ = some (.int .i64 (n.kids.l[j] : Int)) := by simpa using hkc w2 HB2.out 0 _ rfl
            have hkid := HVl.out.kid.2 n.kids.l[j] (List.getElem_mem hjl)
            have HCt := Lib.hid (szK_take acc n.kids.l j hjl)
            obtain ⟨y, hy⟩ : ∃ y, y = n.kids.l[j] := ⟨_, rfl⟩
            rw [← hy] at b0 hkid HCt
            obtain ⟨v, hvv⟩ : ∃ v, v = szK acc (n.kids.l.take j) := ⟨_, rfl⟩
            have hv61 : v ≤ 61 := by rw [hvv]; exact szK_le _ _
            rw [← hvv] at HA2 HCt hal
            obtain ⟨u, hu⟩ : ∃ u, u = acc.getD y 0 := ⟨_, rfl⟩
            have hu61 : u ≤ 61 := by rw [hu]; exact H61a.out y
            rw [← hu] at HCt
            have y0 : (0 : Int) ≤ (y : Int) := by omega
            have y60 : (y : Int) < 60 := by omega
            have cy : w2.cell? ⟨w.heap.size + 1, y, none⟩ = some (.int .i64 (u : Int)) := by
              have h9 := HA2.out.cells y _ (arrI_get (acc ++ [v]) y hal (by omega))
              rw [h9, hu]
              simp only [List.getD_eq_getElem?_getD]
              rw [List.getElem?_append_left (by have := HAcc.out; omega)]
            have ck : w2.cell? ⟨w.heap.size + 1, k, none⟩ = some (.int .i64 (v : Int)) := by
              have h9 := HA2.out.cells k _ (arrI_get (acc ++ [v]) k hal (by omega))
              rw [h9]
              simp only [List.getD_eq_getElem?_getD]
              rw [List.getElem?_append_right (by have := HAcc.out; omega), HAcc.out]
              simp
            have fk := HA2.out.free k (by rw [arrI_len _ hal]; omega)
            have lA2 := HA2.out.lt
            have e3 : IntKind.i64.wrap ((v : Int) + (u : Int)) = (v : Int) + (u : Int) := IntWalk.i64_in _ (by omega)
            clear hKA hkc hy hvv hu
            go_wp2_with fail
            go_still_tail 9, (by kernel_rfl)
            change wpList _ _ _ _ _ w2.drew
            have hbd : Below w2.heap.size w2 w2.drew := (Below.refl _ _).drew
            generalize w2.drew = w3 at hbd ⊢
            have HX3 := Lib.hid (HX2.out.below hbd)
            have HA3 := Lib.hid (HA2.out.below hbd)
            have HB3 := Lib.hid (bon HB2.out hbd)
            have ck3 := HA3.out.cells k _ (arrI_get (acc ++ [v]) k hal (by omega))
            have fk3 := HA3.out.free k (by rw [arrI_len _ hal]; omega)
            have lA3 := HA3.out.lt
            have HSx := Lib.hid (HX3.out.grown (grown_set w3 ⟨w.heap.size + 1, k, none⟩ (.int .i64 (min 61 (v + u) : Nat))) (by simp))
            have HSa : Hid (Vr (w3.setCell ⟨w.heap.size + 1, k, none⟩ (.int .i64 (min 61 (v + u) : Nat))) (w.heap.size + 1) (arrI (acc ++ [szK acc (n.kids.l.take (j + 1))]))) := Lib.hid ((HA3.out.set k (.int .i64 (min 61 (v + u) : Nat))).eq (by
              rw [HCt.out]
              have := arrI_set2 acc v (min 61 (v + u)) (by have := HAcc.out; omega)
              rw [HAcc.out] at this
              exact this))
            have HSb := Lib.hid (HB3.out.setCell (p := ⟨w.heap.size + 1, k, none⟩) (by show w.heap.size ≤ w.heap.size + 1; omega) (.int .i64 (min 61 (v + u) : Nat)))
            have HMin : Hid ((if (v : Int) + (u : Int) < 61 then (v : Int) + (u : Int) else 61) = ((min 61 (v + u) : Nat) : Int)) := Lib.hid (by split <;> omega)
            clear hbd e3
            go_wp2_with fail
            go_roundw
            case rel => rw [HMin.out]; exact ⟨j + 1, by go_num, by omega, HSx.out, HSa.out, HSb.out⟩
            case measure => simp [intOf]; omega
          · obtain rfl : j = n.kids.l.length := by omega
            rw [List.take_length] at HA2
            have HSa : Hid (Vr w2 (w.heap.size + 1) (arrI (szs (sv1) (x.lg.take (k + 1))))) := Lib.hid (HA2.out.eq (by rw [HH.out]))
            go_wp2_with fail
            go_roundw
            case rel => exact ⟨k + 1, by go_num, by omega, HX2.out, HSa.out, HB2.out⟩
            case measure => simp [intOf]; omega
    · obtain rfl : k = x.root + 1 := by omega
      have c1 := HX.out.cells 1 _ rfl
      have l0 := HX.out.lt
      have i0' : (0 : Int) ≤ (x.root : Int) := by omega
      have i60 : (x.root : Int) < 60 := by omega
      have hacc : (szs (sv1) (x.lg.take (x.root + 1))).length ≤ 60 := by rw [szs_len, List.length_take]; omega
      have ck := HA.out.cells x.root _ (arrI_get _ x.root hacc (by omega))
      have lA := HA.out.lt
      clear hacc
      go_wp2_with fail
      go_ret
      exact ⟨rfl, HB.out⟩
theorem sv1_le (i : Nat) : sv1 i ≤ 61 := by unfold sv1; decide
theorem sv2_le (ls : List (List Lg × Nat)) (i : Nat) : sv2 ls i ≤ 61 := by
  unfold sv2
  split
  · exact szs_le sv1 sv1_le _ _
  · decide
set_option maxRecDepth 100000 in
set_option maxHeartbeats 2000000 in
theorem sub2_any (xs : Sl Ex) (b3 b10 : Nat) (i : Nat) (w : World) (h3 : w.cell? ⟨b3, 0, none⟩ = some (.slice xs.a xs.l.length xs.c)) (h10 : w.cell? ⟨b10, 0, none⟩ = some (.func (.func 27) #[] #[])) (_l3 : b3 < w.heap.size) (_l10 : b10 < w.heap.size)
    (hr : Rd w 2 xs.a xs.l.length (xs.l.flatMap exC)) (hok : ∀ y ∈ xs.l, y.ok w) (hv : ∀ y ∈ xs.l, VX y.lg y.root) :
    Calls Tryd.prog 29 (#[.int .i64 (i : Int)] ++ #[.pointer (some ⟨b3, 0, none⟩), .pointer (some ⟨b10, 0, none⟩)]) w (RetNat (sv2 (xs.l.map Ex.pr) i) w) := by
  have HR := Lib.hid hr
  have HOk := Lib.hid hok
  have HV := Lib.hid hv
  clear hr hok hv
  simp only [List.append_toArray, List.cons_append, List.nil_append]
  by_cases hi : i < xs.l.length
  · have d1 : decide (i < xs.l.length) = true := decide_eq_true hi
    have i0' : (0 : Int) ≤ (i : Int) := by omega
    have i1 : (i : Int) < (xs.l.length : Int) := by omega
    obtain ⟨b, o, hA, hb, hc⟩ := HR.out.at exC_len (by omega) hi
    have HA := Lib.hid hA
    have hrun : ∀ w', Sem.run Tryd.prog (Instr.indexAt 30 (.slice xs.a xs.l.length xs.c) (.int .i64 i)) w' = .ok (Value.pointer (some ⟨b, o + i * 2, none⟩)) w' := fun w' => by
      rw [HA.out]; go_simp
    have HSv : Hid (sv2 (xs.l.map Ex.pr) i = (szs sv1 ((xs.l[i]).lg.take ((xs.l[i]).root + 1))).getD (xs.l[i]).root 0) := Lib.hid (by
      unfold sv2
      rw [List.getElem?_map, List.getElem?_eq_getElem hi]
      rfl)
    have hxk := HOk.out _ (List.getElem_mem hi)
    have hxv := HV.out _ (List.getElem_mem hi)
    obtain ⟨x, hx⟩ : ∃ x, x = xs.l[i] := ⟨_, rfl⟩
    rw [← hx] at hc HSv hxk hxv
    have a0 : w.cell? ⟨b, o + i * 2, none⟩ = some (.slice x.nodes.a x.nodes.l.length x.nodes.c) := by simpa using hc w (Below.refl _ _) 0 _ rfl
    have a1 := hc w (Below.refl _ _) 1 _ rfl
    have HC : Hid (∀ W, Below w.heap.size w W → Calls Tryd.prog 28 #[.agg #[.slice x.nodes.a x.nodes.l.length x.nodes.c, .int .i64 (x.root : Int)], .func (.func 27) #[] #[]] W (RetNat ((szs sv1 (x.lg.take (x.root + 1))).getD x.root 0) W)) := Lib.hid (fun W hW => sizeOne_any x W hxv (Ex.below hxk hW) sv1_le (fun i W' _ => one_any i W'))
    clear hA hc hx hxk hxv hi
    go_enter Tryd.func29, Tryd.ntmps29
    go_wp2_with fail
    go_still_tail 5, (by kernel_rfl)
    change wpList _ _ _ _ _ w.drew
    have hbd : Below w.heap.size w w.drew := (Below.refl _ _).drew
    generalize w.drew = w3 at hbd ⊢
    have HBd := Lib.hid hbd
    have HC3 := Lib.hid (HC.out w3 hbd)
    clear hbd
    go_wp2_with fail
    refine HC3.out.mono ?_
    rintro e w4 ⟨rfl, b4⟩
    have HB4 := Lib.hid (bon HBd.out b4)
    clear b4
    go_wp2_with fail
    go_ret
    exact ⟨by rw [HSv.out]; rfl, HB4.out⟩
  · have d1 : decide (i < xs.l.length) = false := decide_eq_false hi
    have HSv : Hid (sv2 (xs.l.map Ex.pr) i = 1) := Lib.hid (by
      unfold sv2
      rw [List.getElem?_eq_none (by simp; omega)])
    have HB := Lib.hid (Below.refl w.heap.size w)
    clear hi
    go_enter Tryd.func29, Tryd.ntmps29
    go_wp2_with fail
    go_ret
    exact ⟨by rw [HSv.out]; rfl, HB.out⟩
set_option maxRecDepth 100000 in
set_option maxHeartbeats 4000000 in
theorem sizeTwo_any (ls : List (List Lg × Nat)) (b3 b10 : Nat) (x : Ex) (w : World) (hv : VX x.lg x.root) (hok : x.ok w) (hs61 : ∀ i, (sv2 ls) i ≤ 61)
    (hcl : ∀ (i : Nat) (W : World), Below w.heap.size w W → Calls Tryd.prog 29 (#[.int .i64 (i : Int)] ++ #[.pointer (some ⟨b3, 0, none⟩), .pointer (some ⟨b10, 0, none⟩)]) W (RetNat ((sv2 ls) i) W)) :
    Calls Tryd.prog 28 #[.agg #[.slice x.nodes.a x.nodes.l.length x.nodes.c, .int .i64 (x.root : Int)], .func (.func 29) #[] #[.pointer (some ⟨b3, 0, none⟩), .pointer (some ⟨b10, 0, none⟩)]] w (RetNat ((szs (sv2 ls) (x.lg.take (x.root + 1))).getD x.root 0) w) := by
  have HR := Lib.hid hok.1
  have HK := Lib.hid hok.2.2
  have hcap := hok.2.1
  have HE := Lib.hid hv.each
  have HCl := Lib.hid hcl
  have H61 := Lib.hid hs61
  have n1 := hv.le
  have n2 := hv.root
  rw [Ex.lg_len] at n1 n2
  obtain ⟨w1, hw1⟩ : ∃ w1, w1 = w.alloc (.cells #[.slice x.nodes.a x.nodes.l.length x.nodes.c, .int .i64 (x.root : Int)] 25) := ⟨_, rfl⟩
  have hb1 : Below w.heap.size w w1 := by rw [hw1]; exact below_new w _
  have hz1 : w1.heap.size = w.heap.size + 1 := by rw [hw1]; simp
  have hv1 : Vr w1 w.heap.size [.slice x.nodes.a x.nodes.l.length x.nodes.c, .int .i64 (x.root : Int)] := by rw [hw1]; exact Vr.new w _ _
  have HB0 := Lib.hid (bon hb1 (below_new w1 (.cells (arrI []).toArray 70)))
  have HX0 := Lib.hid (hv1.below (below_new w1 (.cells (arrI []).toArray 70)))
  have HA0 : Hid (Vr (w1.alloc (.cells (arrI []).toArray 70)) (w.heap.size + 1) (arrI [])) := Lib.hid (by have := Vr.new w1 (arrI []) 70; rwa [hz1] at this)
  have HW1 := Lib.hid hw1
  clear hv hok hw1 hb1 hz1 hv1 hcl hs61
  go_enter Tryd.func28, Tryd.ntmps28
  go_upto_region 2 with fail
  change Code.wp _ _ _ _ ((w.alloc (.cells #[.slice x.nodes.a x.nodes.l.length x.nodes.c, .int .i64 (x.root : Int)] 25)).alloc (.cells (arrI []).toArray 70))
  rw [← HW1.out]
  obtain ⟨w2, hw2⟩ : ∃ w2, w2 = w1.alloc (.cells (arrI []).toArray 70) := ⟨_, rfl⟩
  rw [← hw2] at HB0 HX0 HA0 ⊢
  clear hw2
  have c0 := HX0.out.cells 0 _ rfl
  have c1 := HX0.out.cells 1 _ rfl
  have l0 := HX0.out.lt
  have i2 : (x.root : Int) + 1 ≤ (x.nodes.c : Int) := by omega
  go_wp2_with fail
  clear c0 c1 l0 i2
  go_loopw [17] (fun i wr => ∃ k : Nat, i = .int .i64 k ∧ k ≤ x.root + 1 ∧ Vr wr w.heap.size [.slice x.nodes.a x.nodes.l.length x.nodes.c, .int .i64 (x.root : Int)] ∧ Vr wr (w.heap.size + 1) (arrI (szs (sv2 ls) (x.lg.take k))) ∧ Below w.heap.size w wr) (fun i _ => x.root + 1 - (intOf i).toNat)
  case atStart => exact ⟨0, rfl, by omega, HX0.out, HA0.out, HB0.out⟩
  case round =>
    obtain ⟨k, rfl, hk, hvx, hva, hbl⟩ := hrel
    have HX := Lib.hid hvx
    have HA := Lib.hid hva
    have HB := Lib.hid hbl
    clear hvx hva hbl
    by_cases hlt : k < x.root + 1
    · have i0' : (0 : Int) ≤ (k : Int) := by omega
      have i1 : (k : Int) < (x.root : Int) + 1 := by omega
      have i60 : (k : Int) < 60 := by omega
      have hlt2 : k < x.nodes.l.length := by omega
      obtain ⟨n, b, o, hn, hA, hb, hrun0, hc⟩ := nd_at HR.out hlt2
      have hrun := fun w' => hrun0 (x.root + 1) w' hlt
      obtain ⟨a0, a1, a2, a3, a4⟩ := hc wr HB.out
      have hvl := HE.out k (by rw [Ex.lg_len]; exact hlt2)
      have htk := szs_take (sv2 ls) x.lg k (by rw [Ex.lg_len]; exact hlt2)
      rw [Ex.lg_get x k hlt2, ← hn] at hvl htk
      have hacc : (szs (sv2 ls) (x.lg.take k)).length = k := by rw [szs_len, List.length_take, Ex.lg_len]; omega
      have H61a := Lib.hid (szs_le (sv2 ls) H61.out (x.lg.take k))
      obtain ⟨acc, hac⟩ : ∃ acc, acc = szs (sv2 ls) (x.lg.take k) := ⟨_, rfl⟩
      rw [← hac] at HA htk hacc H61a
      have HTk := Lib.hid htk
      have hnk : n.ok w := by rw [hn]; exact HK.out _ (List.getElem_mem hlt2)
      have HNk := Lib.hid hnk
      have HVl := Lib.hid hvl
      have HAcc := Lib.hid hacc
      have ck := HA.out.cells k _ (arrI_get acc k (by omega) (by omega))
      have fk := HA.out.free k (by rw [arrI_len acc (by omega)]; omega)
      have lA := HA.out.lt
      -- behind 'l[i] = 1'
      have HBs := Lib.hid (below_new (wr.setCell ⟨w.heap.size + 1, k, none⟩ (.int .i64 1)) (.cells #[.int .i64 (n.kind : Int), .int .i64 (n.server : Int), .int .i64 (n.need : Int), .slice none 0 0, .slice n.kids.a n.kids.l.length n.kids.c] 41))
      obtain ⟨wn, hwn⟩ : ∃ wn, wn = (wr.setCell ⟨w.heap.size + 1, k, none⟩ (.int .i64 1)).alloc (.cells #[.int .i64 (n.kind : Int), .int .i64 (n.server : Int), .int .i64 (n.need : Int), .slice none 0 0, .slice n.kids.a n.kids.l.length n.kids.c] 41) := ⟨_, rfl⟩
      have HXn : Hid (Vr wn w.heap.size [.slice x.nodes.a x.nodes.l.length x.nodes.c, .int .i64 (x.root : Int)]) := Lib.hid (by rw [hwn]; exact (HX.out.grown (grown_set wr ⟨w.heap.size + 1, k, none⟩ (.int .i64 1)) (by simp)).below HBs.out)
      have HAn : Hid (Vr wn (w.heap.size + 1) (arrI (acc ++ [1]))) := Lib.hid (by
        rw [hwn]
        refine ((HA.out.set k (.int .i64 1)).below HBs.out).eq ?_
        have := arrI_set acc 1 (by omega)
        rw [hacc] at this
        exact this)
      have HNn : Hid (Vr wn wr.heap.size (ndC n)) := Lib.hid (by rw [hwn]; have := Vr.new (wr.setCell ⟨w.heap.size + 1, k, none⟩ (.int .i64 1)) (ndC n) 41; rwa [World.size_setCell] at this)
      have HBw : Hid (Below w.heap.size w wn) := Lib.hid (by rw [hwn]; exact bon (HB.out.setCell (p := ⟨w.heap.size + 1, k, none⟩) (by show w.heap.size ≤ w.heap.size + 1; omega) (.int .i64 1)) HBs.out)
      have HWn := Lib.hid hwn
      clear hc hn hA hac htk hacc hnk hrun0 hwn HBs
      by_cases hk1 : n.kind = 1
      · have e1 : ((n.kind : Int) == 1) = true := by rw [hk1]; rfl
        have hks : n.kids.l = [] := by
          rcases HVl.out with h | h
          · exact h.2.2.1
          · exact absurd (hk1.symm.trans h.1) (by decide)
        have HH : Hid (szs (sv2 ls) (x.lg.take (k + 1)) = acc ++ [(sv2 ls) n.server]) := Lib.hid (by
          rw [HTk.out]
          have : szOf (sv2 ls) acc n.lg = (sv2 ls) n.server := by
            unfold szOf
            rw [show n.lg.kids = [] from hks, if_pos (show n.lg.kind = 1 from hk1)]; rfl
          rw [this])
        have hkl : n.kids.l.length = 0 := by rw [hks]; rfl
        have HKl := Lib.hid hkl
        clear hk1 hvl hks hkl
        go_upto_region 7 with fail
        rw [← HWn.out]
        have q1 := HNn.out.cells 1 _ rfl
        have lq := HNn.out.lt
        have HC : Hid (Calls Tryd.prog 29 #[.int .i64 (n.server : Int), .pointer (some ⟨b3, 0, none⟩), .pointer (some ⟨b10, 0, none⟩)] wn (RetNat ((sv2 ls) n.server) wn)) := Lib.hid (by simpa using HCl.out n.server wn HBw.out)
        clear ck fk lA a0 a1 a2 a3 a4 hrun
        go_wp2_with fail
        refine HC.out.mono ?_
        rintro e w3 ⟨rfl, b3⟩
        have HX3 := Lib.hid (HXn.out.below b3)
        have HA3 := Lib.hid (HAn.out.below b3)
        have HN3 := Lib.hid (HNn.out.below b3)
        have HB3 := Lib.hid (bon HBw.out b3)
        have hal : (acc ++ [1]).length ≤ 60 := by have := HAcc.out; simp; omega
        have ck := HA3.out.cells k _ (arrI_get (acc ++ [1]) k hal (by omega))
        have fk := HA3.out.free k (by rw [arrI_len _ hal]; omega)
        have lA := HA3.out.lt
        have q4 := HN3.out.cells 4 _ rfl
        rw [HKl.out] at q4
        have lq3 := HN3.out.lt
        have hne : wr.heap.size ≠ w.heap.size + 1 := by have := HA.out.lt; omega
        have HSx := Lib.hid (HX3.out.grown (grown_set w3 ⟨w.heap.size + 1, k, none⟩ (.int .i64 ((sv2 ls) n.server : Nat))) (by simp))
        have HSa : Hid (Vr (w3.setCell ⟨w.heap.size + 1, k, none⟩ (.int .i64 ((sv2 ls) n.server : Nat))) (w.heap.size + 1) (arrI (szs (sv2 ls) (x.lg.take (k + 1))))) := Lib.hid ((HA3.out.set k (.int .i64 ((sv2 ls) n.server : Nat))).eq (by
          rw [HH.out]
          have := arrI_set2 acc 1 ((sv2 ls) n.server) (by have := HAcc.out; omega)
          rw [HAcc.out] at this
          exact this))
        have HSb := Lib.hid (HB3.out.setCell (p := ⟨w.heap.size + 1, k, none⟩) (by show w.heap.size ≤ w.heap.size + 1; omega) (.int .i64 ((sv2 ls) n.server : Nat)))
        clear b3 hal q1 lq
        go_wp2_with fail
        go_loop [36] (fun i => i = .int .i64 0) (fun _ => 0)
        case atStart => rfl
        case round =>
          subst hrel
          go_wp2_with fail
          go_roundw
          case rel => exact ⟨k + 1, by go_num, by omega, HSx.out, HSa.out, HSb.out⟩
          case measure => simp [intOf]; omega
      · have hk2 : n.kind = 2 := by
          rcases hvl with h | h
          · exact absurd h.1 hk1
          · exact h.1
        have e1 : ((n.kind : Int) == 1) = false := by rw [hk2]; rfl
        have hkl : n.kids.l.length ≤ 60 := HVl.out.kid.1
        have HH : Hid (szs (sv2 ls) (x.lg.take (k + 1)) = acc ++ [szK acc n.kids.l]) := Lib.hid (by
          rw [HTk.out]
          have : szOf (sv2 ls) acc n.lg = szK acc n.kids.l := by unfold szOf szK; rw [if_neg (show ¬ n.lg.kind = 1 from hk1)]; rfl
          rw [this])
        clear hk1 hvl hk2
        go_upto_region 8 with fail
        rw [← HWn.out]
        have q4 := HNn.out.cells 4 _ rfl
        have lq := HNn.out.lt
        have lAr := HA.out.lt
        clear ck fk lA a0 a1 a2 a3 a4 hrun
        go_wp2_with fail
        go_loopw [36] (fun i w2 => ∃ j : Nat, i = .int .i64 j ∧ j ≤ n.kids.l.length ∧ Vr w2 w.heap.size [.slice x.nodes.a x.nodes.l.length x.nodes.c, .int .i64 (x.root : Int)] ∧ Vr w2 (w.heap.size + 1) (arrI (acc ++ [szK acc (n.kids.l.take j)])) ∧ Below w.heap.size w w2) (fun i _ => n.kids.l.length - (intOf i).toNat)
        case atStart => exact ⟨0, rfl, Nat.zero_le _, HXn.out, HAn.out, HBw.out⟩
        case round =>
          rename World => w2
          obtain ⟨j, rfl, hj, hx2, ha2, hb2⟩ := hrel
          have HX2 := Lib.hid hx2
          have HA2 := Lib.hid ha2
          have HB2 := Lib.hid hb2
          clear hx2 ha2 hb2
          have hal : (acc ++ [szK acc (n.kids.l.take j)]).length ≤ 60 := by have := HAcc.out; simp; omega
          by_cases hjl : j < n.kids.l.length
          · have j0' : (0 : Int) ≤ (j : Int) := by omega
            have j1 : (j : Int) < (n.kids.l.length : Int) := by omega
            obtain ⟨kb, ko, hKA, hkb, hkc⟩ := HNk.out.at nat1_len (by omega) hjl
            have HKA := Lib.hid hKA
            have hrun : ∀ w', Sem.run Tryd.prog (Instr.indexAt 29 (.slice n.kids.a n.kids.l.length n.kids.c) (.int .i64 j)) w' = .ok (Value.pointer (some ⟨kb, ko + j, none⟩)) w' := fun w' => by
              rw [HKA.out]; go_simp
            have b0 : w2.cell? ⟨kb, ko + j, none⟩ = some (.int .i64 (n.kids.l[j] : Int)) := by simpa using hkc w2 HB2.out 0 _ rfl
            have hkid := HVl.out.kid.2 n.kids.l[j] (List.getElem_mem hjl)
            have HCt := Lib.hid (szK_take acc n.kids.l j hjl)
            obtain ⟨y, hy⟩ : ∃ y, y = n.kids.l[j] := ⟨_, rfl⟩
            rw [← hy] at b0 hkid HCt
            obtain ⟨v, hvv⟩ : ∃ v, v = szK acc (n.kids.l.take j) := ⟨_, rfl⟩
            have hv61 : v ≤ 61 := by rw [hvv]; exact szK_le _ _
            rw [← hvv] at HA2 HCt hal
            obtain ⟨u, hu⟩ : ∃ u, u = acc.getD y 0 := ⟨_, rfl⟩
            have hu61 : u ≤ 61 := by rw [hu]; exact H61a.out y
            rw [← hu] at HCt
            have y0 : (0 : Int) ≤ (y : Int) := by omega
            have y60 : (y : Int) < 60 := by omega
            have cy : w2.cell? ⟨w.heap.size + 1, y, none⟩ = some (.int .i64 (u : Int)) := by
              have h9 := HA2.out.cells y _ (arrI_get (acc ++ [v]) y hal (by omega))
              rw [h9, hu]
              simp only [List.getD_eq_getElem?_getD]
              rw [List.getElem?_append_left (by have := HAcc.out; omega)]
            have ck : w2.cell? ⟨w.heap.size + 1, k, none⟩ = some (.int .i64 (v : Int)) := by
              have h9 := HA2.out.cells k _ (arrI_get (acc ++ [v]) k hal (by omega))
              rw [h9]
              simp only [List.getD_eq_getElem?_getD]
              rw [List.getElem?_append_right (by have := HAcc.out; omega), HAcc.out]
              simp
            have fk := HA2.out.free k (by rw [arrI_len _ hal]; omega)
            have lA2 := HA2.out.lt
            have e3 : IntKind.i64.wrap ((v : Int) + (u : Int)) = (v : Int) + (u : Int) := IntWalk.i64_in _ (by omega)
            clear hKA hkc hy hvv hu
            go_wp2_with fail
            go_still_tail 9, (by kernel_rfl)
            change wpList _ _ _ _ _ w2.drew
            have hbd : Below w2.heap.size w2 w2.drew := (Below.refl _ _).drew
            generalize w2.drew = w3 at hbd ⊢
            have HX3 := Lib.hid (HX2.out.below hbd)
            have HA3 := Lib.hid (HA2.out.below hbd)
            have HB3 := Lib.hid (bon HB2.out hbd)
            have ck3 := HA3.out.cells k _ (arrI_get (acc ++ [v]) k hal (by omega))
            have fk3 := HA3.out.free k (by rw [arrI_len _ hal]; omega)
            have lA3 := HA3.out.lt
            have HSx := Lib.hid (HX3.out.grown (grown_set w3 ⟨w.heap.size + 1, k, none⟩ (.int .i64 (min 61 (v + u) : Nat))) (by simp))
            have HSa : Hid (Vr (w3.setCell ⟨w.heap.size + 1, k, none⟩ (.int .i64 (min 61 (v + u) : Nat))) (w.heap.size + 1) (arrI (acc ++ [szK acc (n.kids.l.take (j + 1))]))) := Lib.hid ((HA3.out.set k (.int .i64 (min 61 (v + u) : Nat))).eq (by
              rw [HCt.out]
              have := arrI_set2 acc v (min 61 (v + u)) (by have := HAcc.out; omega)
              rw [HAcc.out] at this
              exact this))
            have HSb := Lib.hid (HB3.out.setCell (p := ⟨w.heap.size + 1, k, none⟩) (by show w.heap.size ≤ w.heap.size + 1; omega) (.int .i64 (min 61 (v + u) : Nat)))
            have HMin : Hid ((if (v : Int) + (u : Int) < 61 then (v : Int) + (u : Int) else 61) = ((min 61 (v + u) : Nat) : Int)) := Lib.hid (by split <;> omega)
            clear hbd e3
            go_wp2_with fail
            go_roundw
            case rel => rw [HMin.out]; exact ⟨j + 1, by go_num, by omega, HSx.out, HSa.out, HSb.out⟩
            case measure => simp [intOf]; omega
          · obtain rfl : j = n.kids.l.length := by omega
            rw [List.take_length] at HA2
            have HSa : Hid (Vr w2 (w.heap.size + 1) (arrI (szs (sv2 ls) (x.lg.take (k + 1))))) := Lib.hid (HA2.out.eq (by rw [HH.out]))
            go_wp2_with fail
            go_roundw
            case rel => exact ⟨k + 1, by go_num, by omega, HX2.out, HSa.out, HB2.out⟩
            case measure => simp [intOf]; omega
    · obtain rfl : k = x.root + 1 := by omega
      have c1 := HX.out.cells 1 _ rfl
      have l0 := HX.out.lt
      have i0' : (0 : Int) ≤ (x.root : Int) := by omega
      have i60 : (x.root : Int) < 60 := by omega
      have hacc : (szs (sv2 ls) (x.lg.take (x.root + 1))).length ≤ 60 := by rw [szs_len, List.length_take]; omega
      have ck := HA.out.cells x.root _ (arrI_get _ x.root hacc (by omega))
      have lA := HA.out.lt
      clear hacc
      go_wp2_with fail
      go_ret
      exact ⟨rfl, HB.out⟩
end Go.Proofs.YtlklmpcfhnbhgaaDoor
