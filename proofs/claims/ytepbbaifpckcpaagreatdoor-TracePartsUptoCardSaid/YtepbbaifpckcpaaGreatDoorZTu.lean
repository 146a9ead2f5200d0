/- The contracts of Messages. -/
import Derived.Great.Walk
import Derived.BigQuiet
import Derived.Deep.QuietTactic
import Derived.Test.YtepbbaifpckcpaaGreatDoorZTa
import Derived.Test.YtepbbaifpckcpaaGreatDoorZTb
import Derived.Test.YtepbbaifpckcpaaGreatDoorZTrJ
namespace Go.Proofs.YtepbbaifpckcpaaGreatDoor
open Go.RowKit

/-- the state of a loop that makes a row -/
structure GrSt {α : Type} (e k : Nat) (C : α → List Value) (F : Nat → List α) (w : World) (n j : Nat) (o : Value) (wr : World) : Prop where
  le : j ≤ n
  own : wr.ownsRow w.heap.size e k o (F j).length ((F j).flatMap C)
  low : Below w.heap.size w wr
section
variable {α : Type} {e k : Nat} {C : α → List Value} {F : Nat → List α} {w wr w3 w4 : World} {n j : Nat} {o v' : Value} {x : α}
theorem GrSt.skip (h : GrSt e k C F w n j o wr) (hb : Below wr.heap.size wr w3) (hj : j < n) (hF : F (j + 1) = F j) : GrSt e k C F w n (j + 1) o w3 :=
  ⟨hj, by rw [hF]; exact ownsRow_below h.own hb, bon h.low hb⟩
theorem GrSt.on (h : GrSt e k C F w n j o wr) (hb : Below wr.heap.size wr w3) : GrSt e k C F w n j o w3 :=
  ⟨h.le, ownsRow_below h.own hb, bon h.low hb⟩
theorem GrSt.more (h : GrSt e k C F w n j o wr) (hb : Below wr.heap.size wr w3) (hj : j < n) (hF : F (j + 1) = F j ++ [x])
    (hown : w4.ownsRow w.heap.size e k v' ((F j).length + 1) ((F j).flatMap C ++ C x)) (hgr : w3.grownBy w4 o.ownBlock) : GrSt e k C F w n (j + 1) v' w4 :=
  ⟨hj, by rw [hF, List.length_append, List.flatMap_append]; simpa using hown, below_grown (bon h.low hb) (bon h.low hb).size hgr (fun g hg => (h.own.lt g hg).1)⟩
theorem GrSt.start (F : Nat → List α) (w : World) (n : Nat) (h0 : F 0 = []) : GrSt e k C F w n 0 (.slice none 0 0) w :=
  ⟨Nat.zero_le _, by rw [h0]; exact World.ownsRow_nil _ _ _ _, Below.refl _ _⟩
end
/-- messages come back -/
def RetMss (l : List Ms) (w : World) (e : Ending) (w' : World) : Prop := ∃ A c, e = .returned (.slice A l.length c) ∧ Rd w' 21 A l.length (l.flatMap msC) ∧ Below w.heap.size w w'
theorem ret_mss {l : List Ms} {w w' : World} {A : Option Addr} {n c : Nat} (hn : n = l.length) (h : w'.ownsRow w.heap.size 38 21 (.slice A n c) n (l.flatMap msC)) (hb : Below w.heap.size w w') : RetMss l w (.returned (.slice A n c)) w' := by
  subst hn; exact ⟨A, c, rfl, Rd.own h, hb⟩
theorem infoMsr : (Tryz.prog.info? 38).map (fun i => (i.zero, i.size, i.bytes)) = some (some (.agg (msC ms0).toArray), 21, 296) := by kernel_rfl
theorem msC_ones (m : Ms) : ∀ u ∈ msC m, u.oneCell' = true := fun u hu => by
  have h := msC_one' m
  rw [List.all_toArray] at h
  exact List.all_eq_true.1 h u hu
theorem msgs_take_len (l : List Pt) (j : Nat) : (msgsOf (l.take j)).length ≤ l.length := Nat.le_trans (msgsOf_len _) (by rw [List.length_take]; omega)
set_option maxRecDepth 100000 in
set_option maxHeartbeats 4000000 in
theorem trMessages_any (A : Option Addr) (c : Nat) (l : List Pt) (w : World) (hp : PtsIn w A l) (hn : l.length ≤ 1048576) :
    Calls Tryz.prog 23 #[.slice A l.length c] w (RetMss (msgsOf l) w) := by
  have HP := Lib.hid hp
  clear hp

  obtain ⟨i0, hi, hz0, hz1, hz2⟩ := info_parts infoMsr
  have HI := Lib.hid hi
  have HZ0 := Lib.hid hz0
  have HZ1 := Lib.hid hz1
  have HZ2 := Lib.hid hz2
  clear hi hz0 hz1 hz2
  go_enter Tryz.func23, Tryz.ntmps23
  go_wp2_with fail
  go_loopw [3, 8] (fun o i wr => ∃ (j : Nat) (q : Value), i = .int .i64 j ∧ q = o ∧ GrSt 38 21 msC (fun j => msgsOf (l.take j)) w l.length j q wr) (fun _ i _ => l.length - (intOf i).toNat)
  case atStart => exact ⟨0, _, rfl, rfl, GrSt.start _ w l.length rfl⟩
  case round =>
    obtain ⟨j, o, rfl, rfl, hst⟩ := hrel
    have hj := hst.le
    have HJ := Lib.hid hst
    clear hst
    by_cases hlt : j < l.length
    · have i0' : (0 : Int) ≤ (j : Int) := by omega
      have i1 : (j : Int) < (l.length : Int) := by omega
      obtain ⟨b, off, hA, hg, hcc⟩ := HP.out.at hlt
      subst hA
      obtain ⟨x, hx⟩ : ∃ x, x = l[j] := ⟨_, rfl⟩
      have HRg := Lib.hid (hcc wr HJ.out.low)
      rw [← hx] at HRg
      have HXe := Lib.hid hx
      clear hcc hx
      have HX0 := Lib.hid (Vr.new wr (ptC pt0) 40)
      have HX := Lib.hid (HX0.out.sets (ptC x) rfl)
      have HBr := Lib.hid (below_gr (below_new wr (.cells (ptC pt0).toArray 40)) (grown_vs (b := wr.heap.size) (ptC x)) (Nat.le_refl _))
      go_upto_region 5 with (first
        | (refine wpList_load_mid rfl 40 _ rfl b (off + j * 28) rfl (ptC x) _ HRg.out Tryz.underlying40 rfl (infoPt x) ?_)
        | (refine wpList_store_mid rfl 40 _ _ rfl wr.heap.size 0 (ptC x).toArray rfl rfl ?_ (infoPt x) (ptC_one x) ?_; · exact HX0.out.there rfl))
      try simp only [List.toList_toArray]
      clear HX0 HRg
      change Code.wp _ _ _ _ ((wr.alloc (.cells (ptC pt0).toArray 40)).setCells wr.heap.size 0 (ptC x))
      generalize (wr.alloc (.cells (ptC pt0).toArray 40)).setCells wr.heap.size 0 (ptC x) = w3 at HX HBr ⊢
      generalize wr.heap.size = b3 at HX ⊢
      have c1 := HX.out.cells 1 _ rfl
      have c2 := HX.out.cells 2 _ rfl
      have l3 := HX.out.lt
      by_cases h1 : x.kind = 6
      · have h1' : (x.kind == 6) = true := by simpa using h1
        go_wp2_with fail
        refine (trServer_any x.who w3).mono ?_
        rintro e w4 ⟨rfl, hw4⟩; subst hw4
        cases h2 : isSv x.who with
        | false =>
          have HN : Hid (GrSt 38 21 msC (fun j => msgsOf (l.take j)) w l.length (j + 1) o w4) := Lib.hid (HJ.out.skip HBr.out hlt (by show msgsOf (l.take (j + 1)) = msgsOf (l.take j); rw [msgsOf_take l j hlt, ← HXe.out]; simp [isSend, h2]))
          go_wp2_with fail
          go_roundw
          case rel => exact ⟨j + 1, _, by go_num, rfl, HN.out⟩
          case measure => simp [intOf]; omega
        | true =>
          have HFx : Hid (msgsOf (l.take (j + 1)) = msgsOf (l.take j) ++ [x.msg]) := Lib.hid (by rw [msgsOf_take l j hlt, ← HXe.out]; simp [isSend, h1, h2])
          have HO3 := Lib.hid (ownsRow_below HJ.out.own HBr.out)
          have hlen := msgs_take_len l j
          have hz := HJ.out.low.size
          have hz3 := HBr.out.size
          have HO4 := Lib.hid (HO3.out.alloc (.cells (msC x.msg).toArray 38))
          have HN4 := Lib.hid (cell_new w4 (msC x.msg) 38 _ rfl)
          have hz4 : w.heap.size ≤ (w4.alloc (.cells (msC x.msg).toArray 38)).heap.size := by simp; omega
          go_upto_region 6 with fail
          refine wp_region_list ?_
          refine wpList_plain rfl (fun K hK => ?_)
          go_simp
          refine hK _ _ ?_
          clear hK K
          refine wpList_plain rfl (fun K hK => ?_)
          go_simp
          refine hK _ _ ?_
          clear hK K
          refine wpList_load_mid rfl 38 _ rfl b3 7 rfl (msC x.msg) _ HX.out.msg Tryz.underlying38 rfl (infoMsn x.msg) ?_
          refine Go.Great.wpList_buildSliceTo rfl 51 38 1 _ rfl w4.heap.size rfl _ rfl Tryz.underlying51 (msC x.msg).toArray (by kernel_rfl) ?_
          refine wpList_append_own_at _ rfl _ _ 51 rfl w.heap.size 38 i0 _ 21 296 Tryz.underlying51 HI.out HZ0.out HZ1.out HZ2.out rfl (by decide) o (msgsOf (l.take j)).length ((msgsOf (l.take j)).flatMap msC) rfl HO4.out ⟨w4.heap.size, 0, none⟩ 1 1 (msC x.msg) rfl rfl HN4.out (msC_ones x.msg) (by simp [maxLen]; omega) (by omega) hz4 ?_
          intro v' w6 hown' hgrow _ hat
          have HN : Hid (GrSt 38 21 msC (fun j => msgsOf (l.take j)) w l.length (j + 1) v' w6) := Lib.hid (HJ.out.more (bon HBr.out (below_new w4 (.cells (msC x.msg).toArray 38))) hlt HFx.out hown' hgrow)
          clear hown' hgrow hat
          go_wp2_with fail
          go_roundw
          case rel => exact ⟨j + 1, _, by go_num, rfl, HN.out⟩
          case measure => simp [intOf]; omega
      · have h1' : (x.kind == 6) = false := by simpa using h1
        have HN : Hid (GrSt 38 21 msC (fun j => msgsOf (l.take j)) w l.length (j + 1) o w3) := Lib.hid (HJ.out.skip HBr.out hlt (by show msgsOf (l.take (j + 1)) = msgsOf (l.take j); rw [msgsOf_take l j hlt, ← HXe.out]; simp [isSend, h1]))
        go_wp2_with fail
        go_roundw
        case rel => exact ⟨j + 1, _, by go_num, rfl, HN.out⟩
        case measure => simp [intOf]; omega
    · obtain rfl : j = l.length := by omega
      have hown := HJ.out.own
      simp only [List.take_length] at hown
      obtain ⟨a, c', rfl⟩ := ownsRow_form hown
      have HOw := Lib.hid hown
      clear hown
      go_wp2_with fail
      go_ret
      exact ret_mss rfl HOw.out HJ.out.low
set_option maxRecDepth 100000 in
set_option maxHeartbeats 4000000 in
theorem refMessages_any (A : Option Addr) (c : Nat) (l : List Pt) (w : World) (hp : PtsIn w A l) (hn : l.length ≤ 1048576) :
    Calls Tryz.prog 24 #[.slice A l.length c] w (RetMss (msgsOf l) w) := by
  have HP := Lib.hid hp
  clear hp

  obtain ⟨i0, hi, hz0, hz1, hz2⟩ := info_parts infoMsr
  have HI := Lib.hid hi
  have HZ0 := Lib.hid hz0
  have HZ1 := Lib.hid hz1
  have HZ2 := Lib.hid hz2
  clear hi hz0 hz1 hz2
  go_enter Tryz.func24, Tryz.ntmps24
  go_wp2_with fail
  go_loopw [3, 4] (fun o i wr => ∃ (j : Nat) (q : Value), i = .int .i64 j ∧ q = o ∧ GrSt 38 21 msC (fun j => msgsOf (l.take j)) w l.length j q wr) (fun _ i _ => l.length - (intOf i).toNat)
  case atStart => exact ⟨0, _, rfl, rfl, GrSt.start _ w l.length rfl⟩
  case round =>
    obtain ⟨j, o, rfl, rfl, hst⟩ := hrel
    have hj := hst.le
    have HJ := Lib.hid hst
    clear hst
    by_cases hlt : j < l.length
    · have i0' : (0 : Int) ≤ (j : Int) := by omega
      have i1 : (j : Int) < (l.length : Int) := by omega
      obtain ⟨b, off, hA, hg, hcc⟩ := HP.out.at hlt
      subst hA
      obtain ⟨x, hx⟩ : ∃ x, x = l[j] := ⟨_, rfl⟩
      have HXe := Lib.hid hx
      rw [← hx] at hcc
      have HRg := Lib.hid hcc
      have c1 := hcc wr HJ.out.low 1 _ rfl
      have c2 := hcc wr HJ.out.low 2 _ rfl
      clear hcc hx
      by_cases h1 : x.kind = 6
      · have h1' : (x.kind == 6) = true := by simpa using h1
        go_wp2_with fail
        refine (refServer_any x.who wr).mono ?_
        rintro e w4 ⟨rfl, hw4⟩; subst hw4
        cases h2 : isSv x.who with
        | false =>
          have HN : Hid (GrSt 38 21 msC (fun j => msgsOf (l.take j)) w l.length (j + 1) o w4) := Lib.hid (HJ.out.skip (Below.refl _ _) hlt (by show msgsOf (l.take (j + 1)) = msgsOf (l.take j); rw [msgsOf_take l j hlt, ← HXe.out]; simp [isSend, h2]))
          go_wp2_with fail
          go_roundw
          case rel => exact ⟨j + 1, _, by go_num, rfl, HN.out⟩
          case measure => simp [intOf]; omega
        | true =>
          have HFx : Hid (msgsOf (l.take (j + 1)) = msgsOf (l.take j) ++ [x.msg]) := Lib.hid (by rw [msgsOf_take l j hlt, ← HXe.out]; simp [isSend, h1, h2])
          have HO3 := Lib.hid HJ.out.own
          have HRm : Hid (w4.rangeAt b (off + j * 28 + 7) (msC x.msg)) := Lib.hid (fun i v hv => by
            have := HRg.out w4 HJ.out.low (7 + i) v (by rw [ptC_msg]; exact hv)
            rwa [← Nat.add_assoc] at this)
          have hlen := msgs_take_len l j
          have hz := HJ.out.low.size
          have HO4 := Lib.hid (HO3.out.alloc (.cells (msC x.msg).toArray 38))
          have HN4 := Lib.hid (cell_new w4 (msC x.msg) 38 _ rfl)
          have hz4 : w.heap.size ≤ (w4.alloc (.cells (msC x.msg).toArray 38)).heap.size := by simp; omega
          go_upto_region 6 with fail
          refine wp_region_list ?_
          refine wpList_plain rfl (fun K hK => ?_)
          go_simp
          refine hK _ _ ?_
          clear hK K
          refine wpList_plain rfl (fun K hK => ?_)
          go_simp
          refine hK _ _ ?_
          clear hK K
          refine wpList_plain rfl (fun K hK => ?_)
          go_simp
          refine hK _ _ ?_
          clear hK K
          refine wpList_plain rfl (fun K hK => ?_)
          go_simp
          refine hK _ _ ?_
          clear hK K
          refine wpList_plain rfl (fun K hK => ?_)
          go_simp
          refine hK _ _ ?_
          clear hK K
          refine wpList_load_mid rfl 38 _ rfl b (off + j * 28 + 7) rfl (msC x.msg) _ HRm.out Tryz.underlying38 rfl (infoMsn x.msg) ?_
          refine Go.Great.wpList_buildSliceTo rfl 51 38 1 _ rfl w4.heap.size rfl _ rfl Tryz.underlying51 (msC x.msg).toArray (by kernel_rfl) ?_
          refine wpList_append_own_at _ rfl _ _ 51 rfl w.heap.size 38 i0 _ 21 296 Tryz.underlying51 HI.out HZ0.out HZ1.out HZ2.out rfl (by decide) o (msgsOf (l.take j)).length ((msgsOf (l.take j)).flatMap msC) rfl HO4.out ⟨w4.heap.size, 0, none⟩ 1 1 (msC x.msg) rfl rfl HN4.out (msC_ones x.msg) (by simp [maxLen]; omega) (by omega) hz4 ?_
          intro v' w6 hown' hgrow _ hat
          have HN : Hid (GrSt 38 21 msC (fun j => msgsOf (l.take j)) w l.length (j + 1) v' w6) := Lib.hid (HJ.out.more (below_new w4 (.cells (msC x.msg).toArray 38)) hlt HFx.out hown' hgrow)
          clear hown' hgrow hat
          go_wp2_with fail
          go_roundw
          case rel => exact ⟨j + 1, _, by go_num, rfl, HN.out⟩
          case measure => simp [intOf]; omega
      · have h1' : (x.kind == 6) = false := by simpa using h1
        have HN : Hid (GrSt 38 21 msC (fun j => msgsOf (l.take j)) w l.length (j + 1) o wr) := Lib.hid (HJ.out.skip (Below.refl _ _) hlt (by show msgsOf (l.take (j + 1)) = msgsOf (l.take j); rw [msgsOf_take l j hlt, ← HXe.out]; simp [isSend, h1]))
        go_wp2_with fail
        go_roundw
        case rel => exact ⟨j + 1, _, by go_num, rfl, HN.out⟩
        case measure => simp [intOf]; omega
    · obtain rfl : j = l.length := by omega
      have hown := HJ.out.own
      simp only [List.take_length] at hown
      obtain ⟨a, c', rfl⟩ := ownsRow_form hown
      have HOw := Lib.hid hown
      clear hown
      go_wp2_with fail
      go_ret
      exact ret_mss rfl HOw.out HJ.out.low
end Go.Proofs.YtepbbaifpckcpaaGreatDoor
/- The contracts of Contains, Filter, Same. -/
namespace Go.Proofs.YtepbbaifpckcpaaGreatDoor
open Go.RowKit

def sameAt (a b : List Pt) (i : Nat) : Bool := match a[i]?, b[i]? with
  | some x, some y => eqPt x y
  | _, _ => false
def samePts (a b : List Pt) : Bool := decide (a.length = b.length) && (List.range a.length).all (sameAt a b)
theorem sameAt_is {a b : List Pt} {i : Nat} (h1 : i < a.length) (h2 : i < b.length) : sameAt a b i = eqPt a[i] b[i] := by
  unfold sameAt
  rw [List.getElem?_eq_getElem h1, List.getElem?_eq_getElem h2]
theorem samePts_no {a b : List Pt} {i : Nat} (h1 : i < a.length) (h : sameAt a b i = false) : samePts a b = false := by
  unfold samePts
  rw [Bool.and_eq_false_iff]
  right
  rw [List.all_eq_false]
  exact ⟨i, List.mem_range.2 h1, by rw [h]; simp⟩
theorem range_all (f : Nat → Bool) (k : Nat) : (List.range (k + 1)).all f = ((List.range k).all f && f k) := by
  rw [List.range_succ, List.all_append]
  simp
set_option maxRecDepth 100000 in
set_option maxHeartbeats 4000000 in
theorem refSame_any (A B : Option Addr) (c d : Nat) (a b : List Pt) (w : World) (hp : PtsIn w A a) (hp2 : PtsIn w B b) (hs : ∀ x ∈ a, x.msg.sz ≤ 16777216) (hs2 : ∀ x ∈ b, x.msg.sz ≤ 16777216) (hn : a.length ≤ 1099511627776) (_hn2 : b.length ≤ 1099511627776) :
    Calls Tryz.prog 21 #[.slice A a.length c, .slice B b.length d] w (RetBool (samePts a b) w) := by
  have HP := Lib.hid hp
  have HP2 := Lib.hid hp2
  have HSz := Lib.hid hs
  have HSz2 := Lib.hid hs2
  have HB0 := Lib.hid (Below.refl w.heap.size w)
  clear hp hp2 hs hs2
  by_cases hlen : a.length = b.length
  · have hlb : ((a.length : Int) == (b.length : Int)) = true := by rw [beq_iff_eq]; omega
    have hlb2 : ((a.length : Int) != (b.length : Int)) = false := by simp; omega
    have HLen := Lib.hid hlen
    clear hlen
    go_enter Tryz.func21, Tryz.ntmps21
    go_wp2_with fail
    go_loopw [5] (fun i wr => ∃ k : Nat, i = .int .i64 k ∧ k ≤ a.length ∧ (List.range k).all (sameAt a b) = true ∧ Below w.heap.size w wr) (fun i _ => a.length - (intOf i).toNat)
    case atStart => exact ⟨0, rfl, by omega, by simp, HB0.out⟩
    case round =>
      obtain ⟨k, rfl, hk, hA, hB0⟩ := hrel
      have HAl := Lib.hid hA
      have HB := Lib.hid hB0
      clear hA hB0
      have hle := HLen.out
      by_cases hlt : k < a.length
      · have i0' : (0 : Int) ≤ (k : Int) := by omega
        have i1 : (k : Int) < (a.length : Int) := by omega
        have hlt2 : k < b.length := by omega
        have i2 : (k : Int) < (b.length : Int) := by omega
        obtain ⟨ba, oa, hA, hg, hcc⟩ := HP.out.at hlt
        subst hA
        obtain ⟨bb, ob, hA, hg2, hcc2⟩ := HP2.out.at hlt2
        subst hA
        obtain ⟨x, hx⟩ : ∃ x, x = a[k] := ⟨_, rfl⟩
        obtain ⟨y, hy⟩ : ∃ y, y = b[k] := ⟨_, rfl⟩
        have HAt : Hid (sameAt a b k = eqPt x y) := Lib.hid (by rw [sameAt_is hlt hlt2, hx, hy])
        have HS : Hid (∀ W, Below w.heap.size w W → World.rangeAt W ba (oa + k * 28) (ptC x) ∧ World.rangeAt W bb (ob + k * 28) (ptC y)) := Lib.hid (fun W hW => ⟨by rw [hx]; exact hcc W hW, by rw [hy]; exact hcc2 W hW⟩)
        have HEq : Hid (∀ W, Below w.heap.size w W → Calls Tryz.prog 45 #[.agg (ptC x).toArray, .agg (ptC y).toArray] W (RetBool (eqPt x y) W)) := Lib.hid (fun W hW => by
          have m1 : x ∈ a := hx ▸ List.getElem_mem hlt
          have m2 : y ∈ b := hy ▸ List.getElem_mem hlt2
          exact refEqualPt_any x y W (Pt.below (HP.out.2 x m1) hW) (Pt.below (HP2.out.2 y m2) hW) (HSz.out x m1) (HSz2.out y m2))
        clear hcc hcc2 hx hy hg hg2 hle
        cases hq : eqPt x y with
        | true =>
          have HN : Hid ((List.range (k + 1)).all (sameAt a b) = true) := Lib.hid (by rw [range_all, HAl.out, HAt.out, hq]; rfl)
          rw [hq] at HEq
          clear hq
          go_wp2_with fail
          refine wp_region_noPanic ?_
          have HBr := Lib.hid (HB.out.drew)
          generalize hv : wr.drew = v0 at HBr
          have hS0 : World.rangeAt v0 ba (oa + k * 28) (ptC x) ∧ World.rangeAt v0 bb (ob + k * 28) (ptC y) := HS.out _ HBr.out
          refine wp_region_held_drew (S := fun W => World.rangeAt W ba (oa + k * 28) (ptC x) ∧ World.rangeAt W bb (ob + k * 28) (ptC y)) (by kernel_rfl) (by rw [hv]; exact hS0) (fun hHeld => ?_)
          rw [hv] at hHeld ⊢
          clear hv
          refine wpAnyH_take (i := 0) (oi := _) (v := ?_) rfl (by kernel_rfl) (by kernel_rfl) (by kernel_rfl) (fun _ _ _ h => h) (Or.inl ⟨by rfl, ?_⟩) (by assumption) ?_
          rotate_left
          · intro W hSw; (try dsimp only at hSw); go_simp; try with_reducible rfl
          try simp only [Act.put, List.setIfInBounds_toArray, List.set_cons_zero, List.set_cons_succ, List.getElem_toArray, List.getElem_cons_zero]
          refine wpAnyH_take (i := 1) (oi := _) (v := ?_) rfl (by kernel_rfl) (by kernel_rfl) (by kernel_rfl) (fun _ _ _ h => h) (Or.inl ⟨by rfl, ?_⟩) (by assumption) ?_
          rotate_left
          · intro W hSw; (try dsimp only at hSw); go_simp; try with_reducible rfl
          try simp only [Act.put, List.setIfInBounds_toArray, List.set_cons_zero, List.set_cons_succ, List.getElem_toArray, List.getElem_cons_succ, List.getElem_cons_zero]
          refine wpAnyH_take (i := 2) (oi := _) (v := ?_) rfl (by kernel_rfl) (by kernel_rfl) (by kernel_rfl) (fun _ _ _ h => h) (Or.inl ⟨by rfl, ?_⟩) (by assumption) ?_
          rotate_left
          · intro W hSw; (try dsimp only at hSw); go_simp; try with_reducible rfl
          try simp only [Act.put, List.setIfInBounds_toArray, List.set_cons_zero, List.set_cons_succ, List.getElem_toArray, List.getElem_cons_succ, List.getElem_cons_zero]
          refine wpAnyH_take (i := 3) (oi := _) rfl (by kernel_rfl) (by kernel_rfl) (by kernel_rfl) (fun _ _ _ h => h) (yieldsIf_load_mid (by rfl) 40 _ (by rfl) _ _ (by rfl) (ptC x) _ (fun W h => h.1) Tryz.underlying40 rfl (infoPt x)) (by assumption) ?_
          try simp only [Act.put, List.setIfInBounds_toArray, List.set_cons_zero, List.set_cons_succ, List.getElem_toArray, List.getElem_cons_succ, List.getElem_cons_zero]
          refine wpAnyH_take (i := 4) (oi := _) (v := ?_) rfl (by kernel_rfl) (by kernel_rfl) (by kernel_rfl) (fun _ _ _ h => h) (Or.inl ⟨by rfl, ?_⟩) (by assumption) ?_
          rotate_left
          · intro W hSw; (try dsimp only at hSw); go_simp; try with_reducible rfl
          try simp only [Act.put, List.setIfInBounds_toArray, List.set_cons_zero, List.set_cons_succ, List.getElem_toArray, List.getElem_cons_succ, List.getElem_cons_zero]
          refine wpAnyH_take (i := 5) (oi := _) (v := ?_) rfl (by kernel_rfl) (by kernel_rfl) (by kernel_rfl) (fun _ _ _ h => h) (Or.inl ⟨by rfl, ?_⟩) (by assumption) ?_
          rotate_left
          · intro W hSw; (try dsimp only at hSw); go_simp; try with_reducible rfl
          try simp only [Act.put, List.setIfInBounds_toArray, List.set_cons_zero, List.set_cons_succ, List.getElem_toArray, List.getElem_cons_succ, List.getElem_cons_zero]
          refine wpAnyH_take (i := 6) (oi := _) (v := ?_) rfl (by kernel_rfl) (by kernel_rfl) (by kernel_rfl) (fun _ _ _ h => h) (Or.inl ⟨by rfl, ?_⟩) (by assumption) ?_
          rotate_left
          · intro W hSw; (try dsimp only at hSw); go_simp; try with_reducible rfl
          try simp only [Act.put, List.setIfInBounds_toArray, List.set_cons_zero, List.set_cons_succ, List.getElem_toArray, List.getElem_cons_succ, List.getElem_cons_zero]
          refine wpAnyH_take (i := 7) (oi := _) rfl (by kernel_rfl) (by kernel_rfl) (by kernel_rfl) (fun _ _ _ h => h) (yieldsIf_load_mid (by rfl) 40 _ (by rfl) _ _ (by rfl) (ptC y) _ (fun W h => h.2) Tryz.underlying40 rfl (infoPt y)) (by assumption) ?_
          try simp only [Act.put, List.setIfInBounds_toArray, List.set_cons_zero, List.set_cons_succ, List.getElem_toArray, List.getElem_cons_succ, List.getElem_cons_zero]
          refine wpAnyH_ready (rs := [8]) (by kernel_rfl) (by simp) ?_
          refine AllReadyH.cons (o := _) rfl (fun K hK => ?_) AllReadyH.nil
          go_simp
          go_at_call 45
          refine (HEq.out _ HBr.out).mono ?_
          rintro e v1 ⟨rfl, hs⟩
          have HBr := Lib.hid (bon HBr.out hs)
          clear hs
          have hS1 : World.rangeAt v1 ba (oa + k * 28) (ptC x) ∧ World.rangeAt v1 bb (ob + k * 28) (ptC y) := HS.out _ HBr.out
          go_wp2_with fail
          refine hK.out _ _ hS1 (fun hHeld => ?_)
          clear hK K
          try simp only [Act.put, List.setIfInBounds_toArray, List.set_cons_zero, List.set_cons_succ, List.getElem_toArray, List.getElem_cons_succ, List.getElem_cons_zero]
          refine wpAnyH_take (i := 9) (oi := _) (v := ?_) rfl (by kernel_rfl) (by kernel_rfl) (by kernel_rfl) (fun _ _ _ h => h) (Or.inl ⟨by rfl, ?_⟩) (by assumption) ?_
          rotate_left
          · intro W hSw; (try dsimp only at hSw); go_simp; try with_reducible rfl
          try simp only [Act.put, List.setIfInBounds_toArray, List.set_cons_zero, List.set_cons_succ, List.getElem_toArray, List.getElem_cons_succ, List.getElem_cons_zero]
          refine wpAnyH_done (by kernel_rfl) ?_ _
          refine NoPanic.normal ?_
          clear hS0 hS1
          go_wp2_with fail
          go_roundw
          case rel => exact ⟨k + 1, by go_num, by omega, HN.out, HBr.out⟩
          case measure => simp [intOf]; omega
        | false =>
          have HN : Hid (samePts a b = false) := Lib.hid (samePts_no hlt (by rw [HAt.out, hq]))
          rw [hq] at HEq
          clear hq
          go_wp2_with fail
          refine wp_region_noPanic ?_
          have HBr := Lib.hid (HB.out.drew)
          generalize hv : wr.drew = v0 at HBr
          have hS0 : World.rangeAt v0 ba (oa + k * 28) (ptC x) ∧ World.rangeAt v0 bb (ob + k * 28) (ptC y) := HS.out _ HBr.out
          refine wp_region_held_drew (S := fun W => World.rangeAt W ba (oa + k * 28) (ptC x) ∧ World.rangeAt W bb (ob + k * 28) (ptC y)) (by kernel_rfl) (by rw [hv]; exact hS0) (fun hHeld => ?_)
          rw [hv] at hHeld ⊢
          clear hv
          refine wpAnyH_take (i := 0) (oi := _) (v := ?_) rfl (by kernel_rfl) (by kernel_rfl) (by kernel_rfl) (fun _ _ _ h => h) (Or.inl ⟨by rfl, ?_⟩) (by assumption) ?_
          rotate_left
          · intro W hSw; (try dsimp only at hSw); go_simp; try with_reducible rfl
          try simp only [Act.put, List.setIfInBounds_toArray, List.set_cons_zero, List.set_cons_succ, List.getElem_toArray, List.getElem_cons_zero]
          refine wpAnyH_take (i := 1) (oi := _) (v := ?_) rfl (by kernel_rfl) (by kernel_rfl) (by kernel_rfl) (fun _ _ _ h => h) (Or.inl ⟨by rfl, ?_⟩) (by assumption) ?_
          rotate_left
          · intro W hSw; (try dsimp only at hSw); go_simp; try with_reducible rfl
          try simp only [Act.put, List.setIfInBounds_toArray, List.set_cons_zero, List.set_cons_succ, List.getElem_toArray, List.getElem_cons_succ, List.getElem_cons_zero]
          refine wpAnyH_take (i := 2) (oi := _) (v := ?_) rfl (by kernel_rfl) (by kernel_rfl) (by kernel_rfl) (fun _ _ _ h => h) (Or.inl ⟨by rfl, ?_⟩) (by assumption) ?_
          rotate_left
          · intro W hSw; (try dsimp only at hSw); go_simp; try with_reducible rfl
          try simp only [Act.put, List.setIfInBounds_toArray, List.set_cons_zero, List.set_cons_succ, List.getElem_toArray, List.getElem_cons_succ, List.getElem_cons_zero]
          refine wpAnyH_take (i := 3) (oi := _) rfl (by kernel_rfl) (by kernel_rfl) (by kernel_rfl) (fun _ _ _ h => h) (yieldsIf_load_mid (by rfl) 40 _ (by rfl) _ _ (by rfl) (ptC x) _ (fun W h => h.1) Tryz.underlying40 rfl (infoPt x)) (by assumption) ?_
          try simp only [Act.put, List.setIfInBounds_toArray, List.set_cons_zero, List.set_cons_succ, List.getElem_toArray, List.getElem_cons_succ, List.getElem_cons_zero]
          refine wpAnyH_take (i := 4) (oi := _) (v := ?_) rfl (by kernel_rfl) (by kernel_rfl) (by kernel_rfl) (fun _ _ _ h => h) (Or.inl ⟨by rfl, ?_⟩) (by assumption) ?_
          rotate_left
          · intro W hSw; (try dsimp only at hSw); go_simp; try with_reducible rfl
          try simp only [Act.put, List.setIfInBounds_toArray, List.set_cons_zero, List.set_cons_succ, List.getElem_toArray, List.getElem_cons_succ, List.getElem_cons_zero]
          refine wpAnyH_take (i := 5) (oi := _) (v := ?_) rfl (by kernel_rfl) (by kernel_rfl) (by kernel_rfl) (fun _ _ _ h => h) (Or.inl ⟨by rfl, ?_⟩) (by assumption) ?_
          rotate_left
          · intro W hSw; (try dsimp only at hSw); go_simp; try with_reducible rfl
          try simp only [Act.put, List.setIfInBounds_toArray, List.set_cons_zero, List.set_cons_succ, List.getElem_toArray, List.getElem_cons_succ, List.getElem_cons_zero]
          refine wpAnyH_take (i := 6) (oi := _) (v := ?_) rfl (by kernel_rfl) (by kernel_rfl) (by kernel_rfl) (fun _ _ _ h => h) (Or.inl ⟨by rfl, ?_⟩) (by assumption) ?_
          rotate_left
          · intro W hSw; (try dsimp only at hSw); go_simp; try with_reducible rfl
          try simp only [Act.put, List.setIfInBounds_toArray, List.set_cons_zero, List.set_cons_succ, List.getElem_toArray, List.getElem_cons_succ, List.getElem_cons_zero]
          refine wpAnyH_take (i := 7) (oi := _) rfl (by kernel_rfl) (by kernel_rfl) (by kernel_rfl) (fun _ _ _ h => h) (yieldsIf_load_mid (by rfl) 40 _ (by rfl) _ _ (by rfl) (ptC y) _ (fun W h => h.2) Tryz.underlying40 rfl (infoPt y)) (by assumption) ?_
          try simp only [Act.put, List.setIfInBounds_toArray, List.set_cons_zero, List.set_cons_succ, List.getElem_toArray, List.getElem_cons_succ, List.getElem_cons_zero]
          refine wpAnyH_ready (rs := [8]) (by kernel_rfl) (by simp) ?_
          refine AllReadyH.cons (o := _) rfl (fun K hK => ?_) AllReadyH.nil
          go_simp
          go_at_call 45
          refine (HEq.out _ HBr.out).mono ?_
          rintro e v1 ⟨rfl, hs⟩
          have HBr := Lib.hid (bon HBr.out hs)
          clear hs
          have hS1 : World.rangeAt v1 ba (oa + k * 28) (ptC x) ∧ World.rangeAt v1 bb (ob + k * 28) (ptC y) := HS.out _ HBr.out
          go_wp2_with fail
          refine hK.out _ _ hS1 (fun hHeld => ?_)
          clear hK K
          try simp only [Act.put, List.setIfInBounds_toArray, List.set_cons_zero, List.set_cons_succ, List.getElem_toArray, List.getElem_cons_succ, List.getElem_cons_zero]
          refine wpAnyH_take (i := 9) (oi := _) (v := ?_) rfl (by kernel_rfl) (by kernel_rfl) (by kernel_rfl) (fun _ _ _ h => h) (Or.inl ⟨by rfl, ?_⟩) (by assumption) ?_
          rotate_left
          · intro W hSw; (try dsimp only at hSw); go_simp; try with_reducible rfl
          try simp only [Act.put, List.setIfInBounds_toArray, List.set_cons_zero, List.set_cons_succ, List.getElem_toArray, List.getElem_cons_succ, List.getElem_cons_zero]
          refine wpAnyH_done (by kernel_rfl) ?_ _
          refine NoPanic.normal ?_
          clear hS0 hS1
          go_wp2_with fail
          go_ret
          exact ret_bl HN.out HBr.out
      · obtain rfl : k = a.length := by omega
        have HN : Hid (samePts a b = true) := Lib.hid (by unfold samePts; rw [HAl.out, decide_eq_true hle]; rfl)
        clear hle
        go_wp2_with fail
        go_ret
        exact ret_bl HN.out HB.out
  · have hlb : ((a.length : Int) == (b.length : Int)) = false := by rw [beq_eq_false_iff_ne]; omega
    have hlb2 : ((a.length : Int) != (b.length : Int)) = true := by simp; omega
    have HN : Hid (samePts a b = false) := Lib.hid (by unfold samePts; rw [decide_eq_false hlen]; rfl)
    clear hlen
    go_enter Tryz.func21, Tryz.ntmps21
    go_wp2_with fail
    go_ret
    exact ret_bl HN.out HB0.out
end Go.Proofs.YtepbbaifpckcpaaGreatDoor
