/- The contracts of Messages. -/
import Derived.Great.Walk
import Derived.BigQuiet
import Derived.Deep.QuietTactic
import Derived.Test.YtepbbaifpckcpaaGreatDoorVPl
import Derived.Test.YtepbbaifpckcpaaGreatDoorVTa
import Derived.Test.YtepbbaifpckcpaaGreatDoorVTb
import Derived.Test.YtepbbaifpckcpaaGreatDoorVTrJ
namespace Go.Proofs.YtepbbaifpckcpaaGreatDoor
open Go.RowKit
structure GrSt {α : Type} (e k : Nat) (C : α → List Value) (F : Nat → List α) (w : World) (n j : Nat) (o : Value) (wr : World) : Prop where
 le : j ≤ n
 own : wr.ownsRow w.heap.size e k o (F j).length ((F j).flatMap C)
 low : Below w.heap.size w wr
section
variable {α : Type} {e k : Nat} {C : α → List Value} {F : Nat → List α} {w wr w3 w4 : World} {n j : Nat} {o v' : Value} {x : α}
theorem GrSt.skip (h : GrSt e k C F w n j o wr) (hb : Below wr.heap.size wr w3) (hj : j < n) (hF : F (j + 1) = F j) : GrSt e k C F w n (j + 1) o w3 :=
 ⟨hj, by rw [hF]; exact ownsRow_below h.own hb, bon h.low hb⟩
theorem GrSt.on (h : GrSt e k C F w n j o wr) (hb : Below wr.heap.size wr w3) : GrSt e k C F w n j o w3 :=
 ⟨h.le, ownsRow_below h.own hb, bon h.low hb⟩
theorem GrSt.more (h : GrSt e k C F w n j o wr) (hb : Below wr.heap.size wr w3) (hj : j < n) (hF : F (j + 1) = F j ++ [x])
    (hown : w4.ownsRow w.heap.size e k v' ((F j).length + 1) ((F j).flatMap C ++ C x)) (hgr : w3.grownBy w4 o.ownBlock) : GrSt e k C F w n (j + 1) v' w4 :=
 ⟨hj, by rw [hF, List.length_append, List.flatMap_append]; simpa using hown, below_grown (bon h.low hb) (bon h.low hb).size hgr (fun g hg => (h.own.lt g hg).1)⟩
theorem GrSt.start (F : Nat → List α) (w : World) (n : Nat) (h0 : F 0 = []) : GrSt e k C F w n 0 (.slice none 0 0) w :=
 ⟨Nat.zero_le _, by rw [h0]; exact World.ownsRow_nil _ _ _ _, Below.refl _ _⟩
end
open Go.RowKit
def filtOf (ks : List Int) (l : List Pt) : List Pt := l.filter fun x => decide (x.kind ∈ ks)
theorem filtOf_take (ks : List Int) (l : List Pt) (j : Nat) (h : j < l.length) : filtOf ks (l.take (j + 1)) = filtOf ks (l.take j) ++ (if l[j].kind ∈ ks then [l[j]] else []) := by
 rw [List.take_succ_eq_append_getElem h]
 unfold filtOf
 rw [List.filter_append]
 congr 1
 by_cases hk : l[j].kind ∈ ks
 · simp [hk]
 · simp [hk]
theorem filtOf_len (ks : List Int) (l : List Pt) : (filtOf ks l).length ≤ l.length := List.length_filter_le _ _
theorem filt_take_len (ks : List Int) (l : List Pt) (j : Nat) : (filtOf ks (l.take j)).length ≤ l.length := Nat.le_trans (filtOf_len _ _) (by rw [List.length_take]; omega)
theorem ptC_ones (x : Pt) : ∀ u ∈ ptC x, u.oneCell' = true := fun u hu => by
 have h := ptC_one x
 rw [List.all_toArray] at h
 exact List.all_eq_true.1 h u hu
theorem ints_at {w : World} {A : Option Addr} {ks : List Int} (h : Rd w 1 A ks.length (intC ks)) {k : Nat} (hk : k < ks.length) : ∃ b o, A = some ⟨b, o, none⟩ ∧ b < w.heap.size ∧ ∀ w', Below w.heap.size w w' → w'.cell? ⟨b, o + k, none⟩ = some (.int .i64 ks[k]) := by
 obtain ⟨b, o, e, hb, hc⟩ := h.cells (by rw [intC_len]; omega)
 exact ⟨b, o, e, hb, fun w' hw => (hw.cell (p := ⟨b, o + k, none⟩) hb).trans (hc k _ (by simp [intC, hk]))⟩
theorem mem_take_succ (ks : List Int) (k : Nat) (h : k < ks.length) (n : Int) (h1 : n ∉ ks.take k) (h2 : n ≠ ks[k]) : n ∉ ks.take (k + 1) := by
 rw [List.take_succ_eq_append_getElem h, List.mem_append, List.mem_singleton]
 rintro (h3 | h3)
 · exact h1 h3
 · exact h2 h3
def sameAt (a b : List Pt) (i : Nat) : Bool := match a[i]?, b[i]? with
 | some x, some y => eqPt x y
 | _, _ => false
def samePts (a b : List Pt) : Bool := decide (a.length = b.length) && (List.range a.length).all (sameAt a b)
theorem eqPt_self (x : Pt) : eqPt x x = true := by simp [eqPt, sameT_self]
theorem samePts_self (l : List Pt) : samePts l l = true := by
 unfold samePts
 rw [Bool.and_eq_true, decide_eq_true_eq, List.all_eq_true]
 refine ⟨rfl, fun i hi => ?_⟩
 have hi' := List.mem_range.1 hi
 unfold sameAt
 rw [List.getElem?_eq_getElem hi']
 exact eqPt_self _
theorem sameAt_is {a b : List Pt} {i : Nat} (h1 : i < a.length) (h2 : i < b.length) : sameAt a b i = eqPt a[i] b[i] := by
 unfold sameAt
 rw [List.getElem?_eq_getElem h1, List.getElem?_eq_getElem h2]
theorem samePts_no {a b : List Pt} {i : Nat} (h1 : i < a.length) (h : sameAt a b i = false) : samePts a b = false := by
 unfold samePts
 rw [Bool.and_eq_false_iff]
 right
 rw [List.all_eq_false]
 exact ⟨i, List.mem_range.2 h1, by rw [h]; simp⟩
theorem range_all (f : Nat → Bool) (k : Nat) : (List.range (k + 1)).all f = ((List.range k).all f && f k) := by
 rw [List.range_succ, List.all_append]
 simp
set_option maxRecDepth 100000 in
set_option maxHeartbeats 2000000 in
theorem idxInt_any (A : Option Addr) (c : Nat) (ks : List Int) (n : Int) (w : World) (h : Rd w 1 A ks.length (intC ks)) (hn : ks.length ≤ 1099511627776) :
    Calls Tryz.prog 67 #[.slice A ks.length c, .int .i64 n] w fun e w' => (∃ i : Int, e = .returned (.int .i64 i) ∧ decide (0 ≤ i) = decide (n ∈ ks)) ∧ w' = w := by
 have HR := hD h
 clear h
 go_enter Tryz.func67, Tryz.ntmps67
 go_wp2_with fail
 go_loopw [8] (fun i wr => ∃ k : Nat, i = .int .i64 k ∧ k ≤ ks.length ∧ n ∉ ks.take k ∧ wr = w) (fun i _ => ks.length - (intOf i).toNat)
 case atStart => exact ⟨0, rfl, by omega, by simp, rfl⟩
 case round =>
  obtain ⟨k, rfl, hk, hm, rfl⟩ := hrel
  have HM := hD hm
  clear hm
  by_cases hlt : k < ks.length
  · have i0' : (0 : Int) ≤ (k : Int) := by omega
    have i1 : (k : Int) < (ks.length : Int) := by omega
    obtain ⟨b, off, rfl, hg, hcc⟩ := ints_at HR.out hlt
    have c0 := hcc _ (Below.refl _ _)
    obtain ⟨y, hy⟩ : ∃ y, y = ks[k] := ⟨_, rfl⟩
    rw [← hy] at c0
    clear hcc
    by_cases hq : n = y
    · have q1 : (n == y) = true := by simpa using hq
      have HF : Hid (decide ((0 : Int) ≤ (k : Int)) = decide (n ∈ ks)) := hD (by
       have h1 : n ∈ ks := by rw [hq, hy]; exact List.getElem_mem hlt
       simp [h1])
      clear hq hy
      go_wp2_with fail
      go_ret
      exact ⟨⟨_, rfl, HF.out⟩, by first | rfl | trivial⟩
    · have q1 : (n == y) = false := by simpa using hq
      have HF : Hid (n ∉ ks.take (k + 1)) := hD (mem_take_succ ks k hlt n HM.out (by rw [← hy]; exact hq))
      clear hq hy
      go_wp2_with fail
      go_roundw
      case rel => exact ⟨k + 1, by go_num, by omega, HF.out, by first | rfl | trivial⟩
      case measure => simp [intOf]; omega
  · obtain rfl : k = ks.length := by omega
    have HF : Hid (decide ((0 : Int) ≤ -1) = decide (n ∈ ks)) := hD (by
     have h1 := HM.out
     rw [List.take_length] at h1
     simp [h1])
    go_wp2_with fail
    go_ret
    exact ⟨⟨_, rfl, HF.out⟩, by first | rfl | trivial⟩
set_option maxRecDepth 100000 in
theorem hasInt_any (A : Option Addr) (c : Nat) (ks : List Int) (n : Int) (w : World) (h : Rd w 1 A ks.length (intC ks)) (hn : ks.length ≤ 1099511627776) :
    Calls Tryz.prog 44 #[.slice A ks.length c, .int .i64 n] w fun e w' => e = .returned (.bool (decide (n ∈ ks))) ∧ w' = w := by
 have HC := hD (idxInt_any A c ks n w h hn)
 clear h hn
 go_enter Tryz.func44, Tryz.ntmps44
 go_wp2_with fail
 refine HC.out.mono ?_
 rintro e w2 ⟨⟨i, rfl, hi⟩, hw⟩
 subst hw
 go_wp2_with fail
 go_ret
 exact ⟨ret_bool (by first | exact hi | (rw [← hi]; done) | (rw [← hi]; simp)), rfl⟩
set_option maxRecDepth 100000 in
set_option maxHeartbeats 4000000 in
theorem trFilter_any (A : Option Addr) (c : Nat) (l : List Pt) (B : Option Addr) (d : Nat) (ks : List Int) (w : World) (hp : PtsIn w A l) (hn : l.length ≤ 1048576) (hk : Rd w 1 B ks.length (intC ks)) (hkn : ks.length ≤ 1099511627776) :
    Calls Tryz.prog 20 #[.slice A l.length c, .slice B ks.length d] w (RetPts (filtOf ks l) w) := by
 have HP := hD hp
 clear hp
 have HK := hD hk
 clear hk
 obtain ⟨i0, hi, hz0, hz1, hz2⟩ := info_parts infoPtr
 have HI := hD hi
 have HZ0 := hD hz0
 have HZ1 := hD hz1
 have HZ2 := hD hz2
 clear hi hz0 hz1 hz2
 go_enter Tryz.func20, Tryz.ntmps20
 go_wp2_with fail
 go_loopw [5, 10] (fun o i wr => ∃ (j : Nat) (q : Value), i = .int .i64 j ∧ q = o ∧ GrSt 40 28 ptC (fun j => filtOf ks (l.take j)) w l.length j q wr) (fun _ i _ => l.length - (intOf i).toNat)
 case atStart => exact ⟨0, _, rfl, rfl, GrSt.start _ w l.length rfl⟩
 case round =>
  obtain ⟨j, o, rfl, rfl, hst⟩ := hrel
  have hj := hst.le
  have HJ := hD hst
  clear hst
  by_cases hlt : j < l.length
  · have i0' : (0 : Int) ≤ (j : Int) := by omega
    have i1 : (j : Int) < (l.length : Int) := by omega
    obtain ⟨b, off, hA, hg, hcc⟩ := HP.out.at hlt
    subst hA
    obtain ⟨x, hx⟩ : ∃ x, x = l[j] := ⟨_, rfl⟩
    have HRg := hD (hcc wr HJ.out.low)
    rw [← hx] at HRg
    have HXe := hD hx
    clear hcc hx
    have HX0 := hD (Vr.new wr (ptC pt0) 40)
    have HX := hD (HX0.out.sets (ptC x) rfl)
    have HBr := hD (below_gr (below_new wr (.cells (ptC pt0).toArray 40)) (grown_vs (b := wr.heap.size) (ptC x)) (Nat.le_refl _))
    go_upto_region 5 with (first
     | (refine wpList_load_mid rfl 40 _ rfl b (off + j * 28) rfl (ptC x) _ HRg.out Tryz.underlying40 rfl (infoPt x) ?_)
     | (refine wpList_store_mid rfl 40 _ _ rfl wr.heap.size 0 (ptC x).toArray rfl rfl ?_ (infoPt x) (ptC_one x) ?_; · exact HX0.out.there rfl))
    try simp only [List.toList_toArray]
    clear HX0 HRg
    change Code.wp _ _ _ _ ((wr.alloc (.cells (ptC pt0).toArray 40)).setCells wr.heap.size 0 (ptC x))
    generalize (wr.alloc (.cells (ptC pt0).toArray 40)).setCells wr.heap.size 0 (ptC x) = w3 at HX HBr ⊢
    generalize wr.heap.size = b3 at HX ⊢
    have c1 := HX.out.cells 1 _ rfl
    have l3 := HX.out.lt
    go_wp2_with fail
    refine (hasInt_any B d ks x.kind w3 (HK.out.below (bon HJ.out.low HBr.out)) hkn).mono ?_
    rintro e w4 ⟨rfl, hw4⟩; subst hw4
    by_cases h2 : x.kind ∈ ks
    · rw [decide_eq_true h2]
      have HFx : Hid (filtOf ks (l.take (j + 1)) = filtOf ks (l.take j) ++ [x]) := hD (by rw [filtOf_take ks l j hlt, ← HXe.out]; simp [h2])
      have HO3 := hD (ownsRow_below HJ.out.own HBr.out)
      have hlen := filt_take_len ks l j
      have hz := HJ.out.low.size
      have hz3 := HBr.out.size
      clear h2
      have HO4 := hD (HO3.out.alloc (.cells (ptC x).toArray 40))
      have HN4 := hD (cell_new w4 (ptC x) 40 _ rfl)
      have hz4 : w.heap.size ≤ (w4.alloc (.cells (ptC x).toArray 40)).heap.size := by simp; omega
      go_upto_region 6 with fail
      refine wp_region_list ?_
      refine wpList_plain rfl (fun K hK => ?_)
      go_simp
      refine hK _ _ ?_
      clear hK K
      refine wpList_load_mid rfl 40 _ rfl b3 0 rfl (ptC x) _ HX.out.range Tryz.underlying40 rfl (infoPt x) ?_
      refine Go.Great.wpList_buildSliceTo rfl 22 40 1 _ rfl w4.heap.size rfl _ rfl Tryz.underlying22 (ptC x).toArray (by kernel_rfl) ?_
      refine wpList_append_own_at _ rfl _ _ 22 rfl w.heap.size 40 i0 _ 28 368 Tryz.underlying22 HI.out HZ0.out HZ1.out HZ2.out rfl (by decide) o (filtOf ks (l.take j)).length ((filtOf ks (l.take j)).flatMap ptC) rfl HO4.out ⟨w4.heap.size, 0, none⟩ 1 1 (ptC x) rfl rfl HN4.out (ptC_ones x) (by simp [maxLen]; omega) (by omega) hz4 ?_
      intro v' w6 hown' hgrow _ hat
      have HN : Hid (GrSt 40 28 ptC (fun j => filtOf ks (l.take j)) w l.length (j + 1) v' w6) := hD (HJ.out.more (bon HBr.out (below_new w4 (.cells (ptC x).toArray 40))) hlt HFx.out hown' hgrow)
      clear hown' hgrow hat
      go_wp2_with fail
      go_roundw
      case rel => exact ⟨j + 1, _, by go_num, rfl, HN.out⟩
      case measure => simp [intOf]; omega
    · rw [decide_eq_false h2]
      have HN : Hid (GrSt 40 28 ptC (fun j => filtOf ks (l.take j)) w l.length (j + 1) o w4) := hD (HJ.out.skip HBr.out hlt (by show filtOf ks (l.take (j + 1)) = filtOf ks (l.take j); rw [filtOf_take ks l j hlt, ← HXe.out]; simp [h2]))
      clear h2
      go_wp2_with fail
      go_roundw
      case rel => exact ⟨j + 1, _, by go_num, rfl, HN.out⟩
      case measure => simp [intOf]; omega
  · obtain rfl : j = l.length := by omega
    have hown := HJ.out.own
    simp only [List.take_length] at hown
    obtain ⟨a, c', rfl⟩ := ownsRow_form hown
    have HOw := hD hown
    clear hown
    go_wp2_with fail
    go_ret
    exact RetPts.ret rfl HOw.out HJ.out.low
set_option maxRecDepth 100000 in
set_option maxHeartbeats 4000000 in
theorem refFilter_any (A : Option Addr) (c : Nat) (l : List Pt) (B : Option Addr) (d : Nat) (ks : List Int) (w : World) (hp : PtsIn w A l) (hn : l.length ≤ 1048576) (hk : Rd w 1 B ks.length (intC ks)) (hkn : ks.length ≤ 1099511627776) :
    Calls Tryz.prog 22 #[.slice A l.length c, .slice B ks.length d] w (RetPts (filtOf ks l) w) := by
 have HP := hD hp
 clear hp
 have HK := hD hk
 clear hk
 obtain ⟨i0, hi, hz0, hz1, hz2⟩ := info_parts infoPtr
 have HI := hD hi
 have HZ0 := hD hz0
 have HZ1 := hD hz1
 have HZ2 := hD hz2
 clear hi hz0 hz1 hz2
 go_enter Tryz.func22, Tryz.ntmps22
 go_wp2_with fail
 go_loopw [5, 6] (fun o i wr => ∃ (j : Nat) (q : Value), i = .int .i64 j ∧ q = o ∧ GrSt 40 28 ptC (fun j => filtOf ks (l.take j)) w l.length j q wr) (fun _ i _ => l.length - (intOf i).toNat)
 case atStart => exact ⟨0, _, rfl, rfl, GrSt.start _ w l.length rfl⟩
 case round =>
  rename World => wo
  obtain ⟨j, o, rfl, rfl, hst⟩ := hrel
  have hj := hst.le
  have HJ := hD hst
  clear hst
  by_cases hlt : j < l.length
  · have i0' : (0 : Int) ≤ (j : Int) := by omega
    have i1 : (j : Int) < (l.length : Int) := by omega
    obtain ⟨b, off, hA, hg, hcc⟩ := HP.out.at hlt
    subst hA
    obtain ⟨x, hx⟩ : ∃ x, x = l[j] := ⟨_, rfl⟩
    have HXe := hD hx
    rw [← hx] at hcc
    have HRg := hD hcc
    clear hcc hx
    go_wp2_with fail
    go_loopw [5, 7] (fun p i wx => ∃ (k q : Nat) (z : Value), i = .int .i64 k ∧ z = p ∧ z = o ∧ k ≤ ks.length ∧ x.kind ∉ ks.take k ∧ wx = wo.drewN q) (fun _ i _ => ks.length - (intOf i).toNat)
    case atStart => exact ⟨0, 0, _, rfl, rfl, rfl, by omega, by simp, rfl⟩
    case round =>
     rename World => wx
     obtain ⟨k, q, z, rfl, rfl, hzo, hk, hm, rfl⟩ := hrel
     obtain rfl : o = z := hzo.symm
     have HM := hD hm
     clear hm
     by_cases hkt : k < ks.length
     · have k0' : (0 : Int) ≤ (k : Int) := by omega
       have k1' : (k : Int) < (ks.length : Int) := by omega
       obtain ⟨bk, ok, rfl, _, hkc⟩ := ints_at HK.out hkt
       have kc := hkc wo HJ.out.low
       obtain ⟨y, hy⟩ : ∃ y, y = ks[k] := ⟨_, rfl⟩
       rw [← hy] at kc
       have c1 := HRg.out wo HJ.out.low 1 _ rfl
       clear hkc
       by_cases hq : y = x.kind
       · have q1 : (y == x.kind) = true := by simpa using hq
         have h2 : x.kind ∈ ks := by rw [← hq, hy]; exact List.getElem_mem hkt
         have HFx : Hid (filtOf ks (l.take (j + 1)) = filtOf ks (l.take j) ++ [x]) := hD (by rw [filtOf_take ks l j hlt, ← HXe.out]; simp [h2])
         clear hq hy h2
         go_wp2_with fail
         go_quiet (fail)
         all_goals
          have hbq : Below wo.heap.size wo ((wo.drewN q).drewN nq) := bdN (bdN (Below.refl _ _) q) nq
          have HBr := hD hbq
          have HRx := hD (HRg.out _ (bon HJ.out.low hbq))
          clear hbq c1 kc
          generalize (wo.drewN q).drewN nq = w4 at HBr HRx ⊢
          have HO3 := hD (ownsRow_below HJ.out.own HBr.out)
          have hlen := filt_take_len ks l j
          have hz := HJ.out.low.size
          have hz3 := HBr.out.size
          have HO4 := hD (HO3.out.alloc (.cells (ptC x).toArray 40))
          have HN4 := hD (cell_new w4 (ptC x) 40 _ rfl)
          have hz4 : w.heap.size ≤ (w4.alloc (.cells (ptC x).toArray 40)).heap.size := by simp; omega
          go_upto_region 9 with fail
          refine wp_region_list ?_
          refine wpList_plain rfl (fun K hK => ?_)
          go_simp
          refine hK _ _ ?_
          clear hK K
          refine wpList_plain rfl (fun K hK => ?_)
          go_simp
          refine hK _ _ ?_
          clear hK K
          refine wpList_plain rfl (fun K hK => ?_)
          go_simp
          refine hK _ _ ?_
          clear hK K
          refine wpList_plain rfl (fun K hK => ?_)
          go_simp
          refine hK _ _ ?_
          clear hK K
          refine wpList_load_mid rfl 40 _ rfl b (off + j * 28) rfl (ptC x) _ HRx.out Tryz.underlying40 rfl (infoPt x) ?_
          refine Go.Great.wpList_buildSliceTo rfl 22 40 1 _ rfl w4.heap.size rfl _ rfl Tryz.underlying22 (ptC x).toArray (by kernel_rfl) ?_
          refine wpList_append_own_at _ rfl _ _ 22 rfl w.heap.size 40 i0 _ 28 368 Tryz.underlying22 HI.out HZ0.out HZ1.out HZ2.out rfl (by decide) o (filtOf ks (l.take j)).length ((filtOf ks (l.take j)).flatMap ptC) rfl HO4.out ⟨w4.heap.size, 0, none⟩ 1 1 (ptC x) rfl rfl HN4.out (ptC_ones x) (by simp [maxLen]; omega) (by omega) hz4 ?_
          intro v' w6 hown' hgrow _ hat
          have HN : Hid (GrSt 40 28 ptC (fun j => filtOf ks (l.take j)) w l.length (j + 1) v' w6) := hD (HJ.out.more (bon HBr.out (below_new w4 (.cells (ptC x).toArray 40))) hlt HFx.out hown' hgrow)
          clear hown' hgrow hat
          go_wp2_with fail
          go_roundw
          case rel => exact ⟨j + 1, _, by go_num, rfl, HN.out⟩
          case measure => simp [intOf]; omega
       · have q1 : (y == x.kind) = false := by simpa using hq
         have HF : Hid (x.kind ∉ ks.take (k + 1)) := hD (mem_take_succ ks k hkt x.kind HM.out (by rw [← hy]; exact fun e1 => hq e1.symm))
         clear hq hy
         go_wp2_with fail
         go_quiet (fail)
         all_goals
          go_wp2_with fail
          go_roundw
          case rel => exact ⟨k + 1, q + nq, _, by go_num, rfl, rfl, by omega, HF.out, by first | rfl | exact draw_two _ _ _⟩
          case measure => simp [intOf]; omega
     · obtain rfl : k = ks.length := by omega
       have h2 : x.kind ∉ ks := by
        have h1 := HM.out
        rwa [List.take_length] at h1
       have HN : Hid (GrSt 40 28 ptC (fun j => filtOf ks (l.take j)) w l.length (j + 1) o (wo.drewN q)) := hD (HJ.out.skip (bdN (Below.refl _ _) q) hlt (by show filtOf ks (l.take (j + 1)) = filtOf ks (l.take j); rw [filtOf_take ks l j hlt, ← HXe.out]; simp [h2]))
       clear h2
       go_wp2_with fail
       go_roundw
       case rel => exact ⟨j + 1, _, by go_num, rfl, HN.out⟩
       case measure => simp [intOf]; omega
  · obtain rfl : j = l.length := by omega
    have hown := HJ.out.own
    simp only [List.take_length] at hown
    obtain ⟨a, c', rfl⟩ := ownsRow_form hown
    have HOw := hD hown
    clear hown
    go_wp2_with fail
    go_ret
    exact RetPts.ret rfl HOw.out HJ.out.low
set_option maxRecDepth 100000 in
set_option maxHeartbeats 4000000 in
theorem refSame_any (A B : Option Addr) (c d : Nat) (a b : List Pt) (w : World) (hp : PtsIn w A a) (hp2 : PtsIn w B b) (hs : ∀ x ∈ a, x.msg.sz ≤ 16777216) (hs2 : ∀ x ∈ b, x.msg.sz ≤ 16777216) (hn : a.length ≤ 1099511627776) (_hn2 : b.length ≤ 1099511627776) :
    Calls Tryz.prog 21 #[.slice A a.length c, .slice B b.length d] w (RetBool (samePts a b) w) := by
 have HP := hD hp
 have HP2 := hD hp2
 have HSz := hD hs
 have HSz2 := hD hs2
 have HB0 := hD (Below.refl w.heap.size w)
 clear hp hp2 hs hs2
 by_cases hlen : a.length = b.length
 · have hlb : ((a.length : Int) == (b.length : Int)) = true := by rw [beq_iff_eq]; omega
   have hlb2 : ((a.length : Int) != (b.length : Int)) = false := by simp; omega
   have HLen := hD hlen
   clear hlen
   go_enter Tryz.func21, Tryz.ntmps21
   go_wp2_with fail
   go_loopw [5] (fun i wr => ∃ k : Nat, i = .int .i64 k ∧ k ≤ a.length ∧ (List.range k).all (sameAt a b) = true ∧ Below w.heap.size w wr) (fun i _ => a.length - (intOf i).toNat)
   case atStart => exact ⟨0, rfl, by omega, by simp, HB0.out⟩
   case round =>
    obtain ⟨k, rfl, hk, hA, hB0⟩ := hrel
    have HAl := hD hA
    have HB := hD hB0
    clear hA hB0
    have hle := HLen.out
    by_cases hlt : k < a.length
    · have i0' : (0 : Int) ≤ (k : Int) := by omega
      have i1 : (k : Int) < (a.length : Int) := by omega
      have hlt2 : k < b.length := by omega
      have i2 : (k : Int) < (b.length : Int) := by omega
      obtain ⟨ba, oa, hA, hg, hcc⟩ := HP.out.at hlt
      subst hA
      obtain ⟨bb, ob, hA, hg2, hcc2⟩ := HP2.out.at hlt2
      subst hA
      obtain ⟨x, hx⟩ : ∃ x, x = a[k] := ⟨_, rfl⟩
      obtain ⟨y, hy⟩ : ∃ y, y = b[k] := ⟨_, rfl⟩
      have HAt : Hid (sameAt a b k = eqPt x y) := hD (by rw [sameAt_is hlt hlt2, hx, hy])
      have HS : Hid (∀ W, Below w.heap.size w W → World.rangeAt W ba (oa + k * 28) (ptC x) ∧ World.rangeAt W bb (ob + k * 28) (ptC y)) := hD (fun W hW => ⟨by rw [hx]; exact hcc W hW, by rw [hy]; exact hcc2 W hW⟩)
      have HEq : Hid (∀ W, Below w.heap.size w W → Calls Tryz.prog 45 #[.agg (ptC x).toArray, .agg (ptC y).toArray] W (RetBool (eqPt x y) W)) := hD (fun W hW => by
       have m1 : x ∈ a := hx ▸ List.getElem_mem hlt
       have m2 : y ∈ b := hy ▸ List.getElem_mem hlt2
       exact refEqualPt_any x y W (Pt.below (HP.out.2 x m1) hW) (Pt.below (HP2.out.2 y m2) hW) (HSz.out x m1) (HSz2.out y m2))
      clear hcc hcc2 hx hy hg hg2 hle
      cases hq : eqPt x y with
      | true =>
       have HN : Hid ((List.range (k + 1)).all (sameAt a b) = true) := hD (by rw [range_all, HAl.out, HAt.out, hq]; rfl)
       rw [hq] at HEq
       clear hq
       go_wp2_with fail
       refine wp_region_noPanic ?_
       have HBr := hD (HB.out.drew)
       generalize hv : wr.drew = v0 at HBr
       have hS0 : World.rangeAt v0 ba (oa + k * 28) (ptC x) ∧ World.rangeAt v0 bb (ob + k * 28) (ptC y) := HS.out _ HBr.out
       refine wp_region_held_drew (S := fun W => World.rangeAt W ba (oa + k * 28) (ptC x) ∧ World.rangeAt W bb (ob + k * 28) (ptC y)) (by kernel_rfl) (by rw [hv]; exact hS0) (fun hHeld => ?_)
       rw [hv] at hHeld ⊢
       clear hv
       refine tkq 0 rfl (v := ?_) (.inl ⟨by rfl, ?_⟩) (by assumption) ?_
       rotate_left
       · intro W h; (try dsimp only at h); go_simp; try with_reducible rfl
       try simp only [Act.put,qk1,qk2,qk3,qk4,qk6]
       refine tkq 1 rfl (v := ?_) (.inl ⟨by rfl, ?_⟩) (by assumption) ?_
       rotate_left
       · intro W h; (try dsimp only at h); go_simp; try with_reducible rfl
       try simp only [Act.put,qk1,qk2,qk3,qk4,qk5,qk6]
       refine tkq 2 rfl (v := ?_) (.inl ⟨by rfl, ?_⟩) (by assumption) ?_
       rotate_left
       · intro W h; (try dsimp only at h); go_simp; try with_reducible rfl
       try simp only [Act.put,qk1,qk2,qk3,qk4,qk5,qk6]
       refine tkq 3 rfl (yieldsIf_load_mid (by rfl) 40 _ (by rfl) _ _ (by rfl) (ptC x) _ (fun W h => h.1) Tryz.underlying40 rfl (infoPt x)) (by assumption) ?_
       try simp only [Act.put,qk1,qk2,qk3,qk4,qk5,qk6]
       refine tkq 4 rfl (v := ?_) (.inl ⟨by rfl, ?_⟩) (by assumption) ?_
       rotate_left
       · intro W h; (try dsimp only at h); go_simp; try with_reducible rfl
       try simp only [Act.put,qk1,qk2,qk3,qk4,qk5,qk6]
       refine tkq 5 rfl (v := ?_) (.inl ⟨by rfl, ?_⟩) (by assumption) ?_
       rotate_left
       · intro W h; (try dsimp only at h); go_simp; try with_reducible rfl
       try simp only [Act.put,qk1,qk2,qk3,qk4,qk5,qk6]
       refine tkq 6 rfl (v := ?_) (.inl ⟨by rfl, ?_⟩) (by assumption) ?_
       rotate_left
       · intro W h; (try dsimp only at h); go_simp; try with_reducible rfl
       try simp only [Act.put,qk1,qk2,qk3,qk4,qk5,qk6]
       refine tkq 7 rfl (yieldsIf_load_mid (by rfl) 40 _ (by rfl) _ _ (by rfl) (ptC y) _ (fun W h => h.2) Tryz.underlying40 rfl (infoPt y)) (by assumption) ?_
       try simp only [Act.put,qk1,qk2,qk3,qk4,qk5,qk6]
       refine tkr 8 rfl (fun K hK => ?_)
       go_simp
       go_at_call 45
       refine (HEq.out _ HBr.out).mono ?_
       rintro e v1 ⟨rfl, hs⟩
       have HBr := hD (bon HBr.out hs)
       clear hs
       have hS1 : World.rangeAt v1 ba (oa + k * 28) (ptC x) ∧ World.rangeAt v1 bb (ob + k * 28) (ptC y) := HS.out _ HBr.out
       go_wp2_with fail
       refine hK.out _ _ hS1 (fun hHeld => ?_)
       clear hK K
       try simp only [Act.put,qk1,qk2,qk3,qk4,qk5,qk6]
       refine tkq 9 rfl (v := ?_) (.inl ⟨by rfl, ?_⟩) (by assumption) ?_
       rotate_left
       · intro W h; (try dsimp only at h); go_simp; try with_reducible rfl
       try simp only [Act.put,qk1,qk2,qk3,qk4,qk5,qk6]
       refine wpAnyH_done (by kernel_rfl) ?_ _
       refine NoPanic.normal ?_
       clear hS0 hS1
       go_wp2_with fail
       go_roundw
       case rel => exact ⟨k + 1, by go_num, by omega, HN.out, HBr.out⟩
       case measure => simp [intOf]; omega
      | false =>
       have HN : Hid (samePts a b = false) := hD (samePts_no hlt (by rw [HAt.out, hq]))
       rw [hq] at HEq
       clear hq
       go_wp2_with fail
       refine wp_region_noPanic ?_
       have HBr := hD (HB.out.drew)
       generalize hv : wr.drew = v0 at HBr
       have hS0 : World.rangeAt v0 ba (oa + k * 28) (ptC x) ∧ World.rangeAt v0 bb (ob + k * 28) (ptC y) := HS.out _ HBr.out
       refine wp_region_held_drew (S := fun W => World.rangeAt W ba (oa + k * 28) (ptC x) ∧ World.rangeAt W bb (ob + k * 28) (ptC y)) (by kernel_rfl) (by rw [hv]; exact hS0) (fun hHeld => ?_)
       rw [hv] at hHeld ⊢
       clear hv
       refine tkq 0 rfl (v := ?_) (.inl ⟨by rfl, ?_⟩) (by assumption) ?_
       rotate_left
       · intro W h; (try dsimp only at h); go_simp; try with_reducible rfl
       try simp only [Act.put,qk1,qk2,qk3,qk4,qk6]
       refine tkq 1 rfl (v := ?_) (.inl ⟨by rfl, ?_⟩) (by assumption) ?_
       rotate_left
       · intro W h; (try dsimp only at h); go_simp; try with_reducible rfl
       try simp only [Act.put,qk1,qk2,qk3,qk4,qk5,qk6]
       refine tkq 2 rfl (v := ?_) (.inl ⟨by rfl, ?_⟩) (by assumption) ?_
       rotate_left
       · intro W h; (try dsimp only at h); go_simp; try with_reducible rfl
       try simp only [Act.put,qk1,qk2,qk3,qk4,qk5,qk6]
       refine tkq 3 rfl (yieldsIf_load_mid (by rfl) 40 _ (by rfl) _ _ (by rfl) (ptC x) _ (fun W h => h.1) Tryz.underlying40 rfl (infoPt x)) (by assumption) ?_
       try simp only [Act.put,qk1,qk2,qk3,qk4,qk5,qk6]
       refine tkq 4 rfl (v := ?_) (.inl ⟨by rfl, ?_⟩) (by assumption) ?_
       rotate_left
       · intro W h; (try dsimp only at h); go_simp; try with_reducible rfl
       try simp only [Act.put,qk1,qk2,qk3,qk4,qk5,qk6]
       refine tkq 5 rfl (v := ?_) (.inl ⟨by rfl, ?_⟩) (by assumption) ?_
       rotate_left
       · intro W h; (try dsimp only at h); go_simp; try with_reducible rfl
       try simp only [Act.put,qk1,qk2,qk3,qk4,qk5,qk6]
       refine tkq 6 rfl (v := ?_) (.inl ⟨by rfl, ?_⟩) (by assumption) ?_
       rotate_left
       · intro W h; (try dsimp only at h); go_simp; try with_reducible rfl
       try simp only [Act.put,qk1,qk2,qk3,qk4,qk5,qk6]
       refine tkq 7 rfl (yieldsIf_load_mid (by rfl) 40 _ (by rfl) _ _ (by rfl) (ptC y) _ (fun W h => h.2) Tryz.underlying40 rfl (infoPt y)) (by assumption) ?_
       try simp only [Act.put,qk1,qk2,qk3,qk4,qk5,qk6]
       refine tkr 8 rfl (fun K hK => ?_)
       go_simp
       go_at_call 45
       refine (HEq.out _ HBr.out).mono ?_
       rintro e v1 ⟨rfl, hs⟩
       have HBr := hD (bon HBr.out hs)
       clear hs
       have hS1 : World.rangeAt v1 ba (oa + k * 28) (ptC x) ∧ World.rangeAt v1 bb (ob + k * 28) (ptC y) := HS.out _ HBr.out
       go_wp2_with fail
       refine hK.out _ _ hS1 (fun hHeld => ?_)
       clear hK K
       try simp only [Act.put,qk1,qk2,qk3,qk4,qk5,qk6]
       refine tkq 9 rfl (v := ?_) (.inl ⟨by rfl, ?_⟩) (by assumption) ?_
       rotate_left
       · intro W h; (try dsimp only at h); go_simp; try with_reducible rfl
       try simp only [Act.put,qk1,qk2,qk3,qk4,qk5,qk6]
       refine wpAnyH_done (by kernel_rfl) ?_ _
       refine NoPanic.normal ?_
       clear hS0 hS1
       go_wp2_with fail
       go_ret
       exact ret_bl HN.out HBr.out
    · obtain rfl : k = a.length := by omega
      have HN : Hid (samePts a b = true) := hD (by unfold samePts; rw [HAl.out, decide_eq_true hle]; rfl)
      clear hle
      go_wp2_with fail
      go_ret
      exact ret_bl HN.out HB.out
 · have hlb : ((a.length : Int) == (b.length : Int)) = false := by rw [beq_eq_false_iff_ne]; omega
   have hlb2 : ((a.length : Int) != (b.length : Int)) = true := by simp; omega
   have HN : Hid (samePts a b = false) := hD (by unfold samePts; rw [decide_eq_false hlen]; rfl)
   clear hlen
   go_enter Tryz.func21, Tryz.ntmps21
   go_wp2_with fail
   go_ret
   exact ret_bl HN.out HB0.out
end Go.Proofs.YtepbbaifpckcpaaGreatDoor
