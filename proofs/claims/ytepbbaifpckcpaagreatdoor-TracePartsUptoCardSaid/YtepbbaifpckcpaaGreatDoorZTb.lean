/- The contracts of Reads. -/
import Derived.Laws.StructEq
import Derived.Maps.AppendAt
import Derived.Deep.OwnRows
import Derived.Laws.OwnMore
import Derived.Test.YtepbbaifpckcpaaGreatDoorZTa
namespace Go.Proofs.YtepbbaifpckcpaaGreatDoor
open Go.RowKit

/-- operations come back -/
def RetOps (l : List Opn) (w : World) (e : Ending) (w' : World) : Prop := ∃ A c, e = .returned (.slice A l.length c) ∧ Rd w' 5 A l.length (l.flatMap opC) ∧ Below w.heap.size w w'
theorem ret_ops {l : List Opn} {w w' : World} {A : Option Addr} {n c : Nat} (hn : n = l.length) (h : w'.ownsRow w.heap.size 44 5 (.slice A n c) n (l.flatMap opC)) (hb : Below w.heap.size w w') : RetOps l w (.returned (.slice A n c)) w' := by
  subst hn; exact ⟨A, c, rfl, Rd.own h, hb⟩
theorem infoOpr : (Tryz.prog.info? 44).map (fun i => (i.zero, i.size, i.bytes)) = some (some (.agg #[.int .i64 0, .int .i64 0, .int .i64 0, .string ⟨#[]⟩, .string ⟨#[]⟩]), 5, 56) := by kernel_rfl
theorem infoOp (x : Opn) : (Tryz.prog.info? 44).map (·.size) = some (opC x).length := by
  have : (Tryz.prog.info? 44).map (·.size) = some 5 := by kernel_rfl
  exact this
/-- the state of a loop that makes operations of points -/
structure OpSt (F : Nat → List Opn) (w : World) (n j : Nat) (o : Value) (wr : World) : Prop where
  le : j ≤ n
  own : wr.ownsRow w.heap.size 44 5 o (F j).length ((F j).flatMap opC)
  low : Below w.heap.size w wr
theorem OpSt.skip {F : Nat → List Opn} {w wr w3 : World} {n j : Nat} {o : Value} (h : OpSt F w n j o wr) (hb : Below wr.heap.size wr w3) (hj : j < n) (hF : F (j + 1) = F j) : OpSt F w n (j + 1) o w3 :=
  ⟨hj, by rw [hF]; exact ownsRow_below h.own hb, bon h.low hb⟩
theorem OpSt.more {F : Nat → List Opn} {w wr w3 w4 : World} {n j : Nat} {o v' : Value} {x : Opn} (h : OpSt F w n j o wr) (hb : Below wr.heap.size wr w3) (hj : j < n) (hF : F (j + 1) = F j ++ [x])
    (hown : w4.ownsRow w.heap.size 44 5 v' ((F j).length + 1) ((F j).flatMap opC ++ opC x)) (hgr : w3.grownBy w4 o.ownBlock) : OpSt F w n (j + 1) v' w4 :=
  ⟨hj, by rw [hF, List.length_append, List.flatMap_append]; simpa using hown, below_grown (bon h.low hb) (bon h.low hb).size hgr (fun g hg => (h.own.lt g hg).1)⟩
theorem OpSt.start (F : Nat → List Opn) (w : World) (n : Nat) (h0 : F 0 = []) : OpSt F w n 0 (.slice none 0 0) w :=
  ⟨Nat.zero_le _, by rw [h0]; exact World.ownsRow_nil _ _ _ _, Below.refl _ _⟩
theorem reads_take (l : List Pt) (j : Nat) (h : j < l.length) : readsFrom 0 (l.take (j + 1)) = readsFrom 0 (l.take j) ++ (if isRead l[j] then [readOf l[j] j] else []) := by
  rw [List.take_succ_eq_append_getElem h, readsFrom_snoc, List.length_take, Nat.min_eq_left (Nat.le_of_lt h), Nat.zero_add]
theorem reads_take_len (l : List Pt) (j : Nat) : (readsFrom 0 (l.take j)).length ≤ l.length := Nat.le_trans (readsFrom_len _ _) (by rw [List.length_take]; omega)
set_option maxRecDepth 100000 in
set_option maxHeartbeats 2000000 in
theorem trReads_any (A : Option Addr) (c : Nat) (l : List Pt) (w : World) (hp : PtsIn w A l) (hn : l.length ≤ 1099511627776) :
    Calls Tryz.prog 16 #[.slice A l.length c] w (RetOps (readsFrom 0 l) w) := by
  have HP := Lib.hid hp
  clear hp
  obtain ⟨i0, hi, hz0, hz1, hz2⟩ := info_parts infoOpr
  have HI := Lib.hid hi
  have HZ0 := Lib.hid hz0
  have HZ1 := Lib.hid hz1
  have HZ2 := Lib.hid hz2
  clear hi hz0 hz1 hz2
  go_enter Tryz.func16, Tryz.ntmps16
  go_wp2_with fail
  go_loopw [3, 8] (fun o i wr => ∃ (j : Nat) (q : Value), i = .int .i64 j ∧ q = o ∧ OpSt (fun j => readsFrom 0 (l.take j)) w l.length j q wr) (fun _ i _ => l.length - (intOf i).toNat)
  case atStart => exact ⟨0, _, rfl, rfl, OpSt.start _ w l.length rfl⟩
  case round =>
    obtain ⟨j, o, rfl, rfl, hst⟩ := hrel
    have hj := hst.le
    have HJ := Lib.hid hst
    clear hst
    by_cases hlt : j < l.length
    · have i0' : (0 : Int) ≤ (j : Int) := by omega
      have i1 : (j : Int) < (l.length : Int) := by omega
      obtain ⟨b, off, hA, hg, hcc⟩ := HP.out.at hlt
      subst hA
      obtain ⟨x, hx⟩ : ∃ x, x = l[j] := ⟨_, rfl⟩
      have HRg := Lib.hid (hcc wr HJ.out.low)
      rw [← hx] at HRg
      have HXe := Lib.hid hx
      clear hcc hx
      have HX0 := Lib.hid (Vr.new wr (ptC pt0) 40)
      have HX := Lib.hid (HX0.out.sets (ptC x) rfl)
      have HBr := Lib.hid (below_gr (below_new wr (.cells (ptC pt0).toArray 40)) (grown_vs (b := wr.heap.size) (ptC x)) (Nat.le_refl _))
      go_upto_region 5 with (first
        | (refine wpList_load_mid rfl 40 _ rfl b (off + j * 28) rfl (ptC x) _ HRg.out Tryz.underlying40 rfl (infoPt x) ?_)
        | (refine wpList_store_mid rfl 40 _ _ rfl wr.heap.size 0 (ptC x).toArray rfl rfl ?_ (infoPt x) (ptC_one x) ?_; · exact HX0.out.there rfl))
      try simp only [List.toList_toArray]
      clear HX0 HRg
      change Code.wp _ _ _ _ ((wr.alloc (.cells (ptC pt0).toArray 40)).setCells wr.heap.size 0 (ptC x))
      generalize (wr.alloc (.cells (ptC pt0).toArray 40)).setCells wr.heap.size 0 (ptC x) = w3 at HX HBr ⊢
      generalize wr.heap.size = b3 at HX ⊢
      have c1 := HX.out.cells 1 _ rfl
      have c2 := HX.out.cells 2 _ rfl
      have c4 := HX.out.cells 4 _ rfl
      have c5 := HX.out.cells 5 _ rfl
      have c6 := HX.out.cells 6 _ rfl
      have l3 := HX.out.lt
      by_cases h1 : x.kind = 5
      · have h1' : (x.kind == 5) = true := by simpa using h1
        go_wp2_with fail
        refine (trServer_any x.who w3).mono ?_
        rintro e w4 ⟨rfl, hw4⟩; subst hw4
        cases h2 : isSv x.who with
        | false =>
          have HN : Hid (OpSt (fun j => readsFrom 0 (l.take j)) w l.length (j + 1) o w4) := Lib.hid (HJ.out.skip HBr.out hlt (by show readsFrom 0 (l.take (j + 1)) = readsFrom 0 (l.take j); rw [reads_take l j hlt, ← HXe.out]; simp [isRead, h2]))
          go_wp2_with fail
          go_roundw
          case rel => exact ⟨j + 1, _, by go_num, rfl, HN.out⟩
          case measure => simp [intOf]; omega
        | true =>
          go_wp2_with fail
          refine (trClient_any x.number w4).mono ?_
          rintro e w5 ⟨rfl, hw5⟩; subst hw5
          cases h3 : isCl x.number with
          | false =>
            have HN : Hid (OpSt (fun j => readsFrom 0 (l.take j)) w l.length (j + 1) o w5) := Lib.hid (HJ.out.skip HBr.out hlt (by show readsFrom 0 (l.take (j + 1)) = readsFrom 0 (l.take j); rw [reads_take l j hlt, ← HXe.out]; simp [isRead, h3]))
            go_wp2_with fail
            go_roundw
            case rel => exact ⟨j + 1, _, by go_num, rfl, HN.out⟩
            case measure => simp [intOf]; omega
          | true =>
            have HFx : Hid (readsFrom 0 (l.take (j + 1)) = readsFrom 0 (l.take j) ++ [readOf x j]) := Lib.hid (by rw [reads_take l j hlt, ← HXe.out]; simp [isRead, h1, h2, h3])
            have HO3 := Lib.hid (ownsRow_below HJ.out.own HBr.out)
            have hlen := reads_take_len l j
            have hz := HJ.out.low.size
            have hz3 := HBr.out.size
            go_wp2_with (at_builtin; refine wpList_append_own_at _ rfl _ _ 41 rfl w.heap.size 44 i0 _ 5 56 Tryz.underlying41 HI.out HZ0.out HZ1.out HZ2.out rfl (by decide) _ _ _ rfl (HO3.out.alloc _) ⟨w5.heap.size, 0, none⟩ 1 1 [.int .i64 x.number, .int .i64 (j : Int), .int .i64 (j : Int), .string ⟨x.text.toArray⟩, .string ⟨x.result.toArray⟩] rfl rfl (cell_new _ _ _ _ rfl) (by simp [Value.oneCell']) (by simp [maxLen]; omega) (by omega) (by simp; omega) ?_)
            intro v' w6 hown' hgrow _ hat
            have HN : Hid (OpSt (fun j => readsFrom 0 (l.take j)) w l.length (j + 1) v' w6) := Lib.hid (HJ.out.more (bon HBr.out (below_new w5 (.cells #[.int .i64 x.number, .int .i64 (j : Int), .int .i64 (j : Int), .string ⟨x.text.toArray⟩, .string ⟨x.result.toArray⟩] 44))) hlt HFx.out hown' hgrow)
            clear hown' hgrow hat
            go_wp2_with fail
            go_roundw
            case rel => exact ⟨j + 1, _, by go_num, rfl, HN.out⟩
            case measure => simp [intOf]; omega
      · have h1' : (x.kind == 5) = false := by simpa using h1
        have HN : Hid (OpSt (fun j => readsFrom 0 (l.take j)) w l.length (j + 1) o w3) := Lib.hid (HJ.out.skip HBr.out hlt (by show readsFrom 0 (l.take (j + 1)) = readsFrom 0 (l.take j); rw [reads_take l j hlt, ← HXe.out]; simp [isRead, h1]))
        go_wp2_with fail
        go_roundw
        case rel => exact ⟨j + 1, _, by go_num, rfl, HN.out⟩
        case measure => simp [intOf]; omega
    · obtain rfl : j = l.length := by omega
      have hown := HJ.out.own
      simp only [List.take_length] at hown
      obtain ⟨a, c', rfl⟩ := ownsRow_form hown
      have HOw := Lib.hid hown
      clear hown
      go_wp2_with fail
      go_ret
      exact ret_ops rfl HOw.out HJ.out.low
set_option maxRecDepth 100000 in
set_option maxHeartbeats 2000000 in
theorem refReads_any (A : Option Addr) (c : Nat) (l : List Pt) (w : World) (hp : PtsIn w A l) (hn : l.length ≤ 1099511627776) :
    Calls Tryz.prog 19 #[.slice A l.length c] w (RetOps (readsFrom 0 l) w) := by
  have HP := Lib.hid hp
  clear hp
  obtain ⟨i0, hi, hz0, hz1, hz2⟩ := info_parts infoOpr
  have HI := Lib.hid hi
  have HZ0 := Lib.hid hz0
  have HZ1 := Lib.hid hz1
  have HZ2 := Lib.hid hz2
  clear hi hz0 hz1 hz2
  go_enter Tryz.func19, Tryz.ntmps19
  go_wp2_with fail
  go_loopw [3, 4] (fun o i wr => ∃ (j : Nat) (q : Value), i = .int .i64 j ∧ q = o ∧ OpSt (fun j => readsFrom 0 (l.take j)) w l.length j q wr) (fun _ i _ => l.length - (intOf i).toNat)
  case atStart => exact ⟨0, _, rfl, rfl, OpSt.start _ w l.length rfl⟩
  case round =>
    obtain ⟨j, o, rfl, rfl, hst⟩ := hrel
    have hj := hst.le
    have HJ := Lib.hid hst
    clear hst
    by_cases hlt : j < l.length
    · have i0' : (0 : Int) ≤ (j : Int) := by omega
      have i1 : (j : Int) < (l.length : Int) := by omega
      obtain ⟨b, off, hA, hg, hcc⟩ := HP.out.at hlt
      subst hA
      obtain ⟨x, hx⟩ : ∃ x, x = l[j] := ⟨_, rfl⟩
      have HRg := Lib.hid (hcc wr HJ.out.low)
      rw [← hx] at HRg
      have HXe := Lib.hid hx
      clear hcc hx
      have HX0 := Lib.hid (Vr.new wr (ptC pt0) 40)
      have HX := Lib.hid (HX0.out.sets (ptC x) rfl)
      have HBr := Lib.hid (below_gr (below_new wr (.cells (ptC pt0).toArray 40)) (grown_vs (b := wr.heap.size) (ptC x)) (Nat.le_refl _))
      go_upto_region 6 with (first
        | (refine wpList_load_mid rfl 40 _ rfl b (off + j * 28) rfl (ptC x) _ HRg.out Tryz.underlying40 rfl (infoPt x) ?_)
        | (refine wpList_store_mid rfl 40 _ _ rfl wr.heap.size 0 (ptC x).toArray rfl rfl ?_ (infoPt x) (ptC_one x) ?_; · exact HX0.out.there rfl))
      try simp only [List.toList_toArray]
      clear HX0 HRg
      change Code.wp _ _ _ _ ((wr.alloc (.cells (ptC pt0).toArray 40)).setCells wr.heap.size 0 (ptC x))
      generalize (wr.alloc (.cells (ptC pt0).toArray 40)).setCells wr.heap.size 0 (ptC x) = w3 at HX HBr ⊢
      generalize wr.heap.size = b3 at HX ⊢
      have c1 := HX.out.cells 1 _ rfl
      have c2 := HX.out.cells 2 _ rfl
      have c4 := HX.out.cells 4 _ rfl
      have c5 := HX.out.cells 5 _ rfl
      have c6 := HX.out.cells 6 _ rfl
      have l3 := HX.out.lt
      by_cases h1 : x.kind = 5
      · have h1' : (x.kind == 5) = true := by simpa using h1
        go_wp2_with fail
        refine (refServer_any x.who w3).mono ?_
        rintro e w4 ⟨rfl, hw4⟩; subst hw4
        cases h2 : isSv x.who with
        | false =>
          have HN : Hid (OpSt (fun j => readsFrom 0 (l.take j)) w l.length (j + 1) o w4) := Lib.hid (HJ.out.skip HBr.out hlt (by show readsFrom 0 (l.take (j + 1)) = readsFrom 0 (l.take j); rw [reads_take l j hlt, ← HXe.out]; simp [isRead, h2]))
          go_wp2_with fail
          go_roundw
          case rel => exact ⟨j + 1, _, by go_num, rfl, HN.out⟩
          case measure => simp [intOf]; omega
        | true =>
          go_wp2_with fail
          refine (refClient_any x.number w4).mono ?_
          rintro e w5 ⟨rfl, hw5⟩; subst hw5
          cases h3 : isCl x.number with
          | false =>
            have HN : Hid (OpSt (fun j => readsFrom 0 (l.take j)) w l.length (j + 1) o w5) := Lib.hid (HJ.out.skip HBr.out hlt (by show readsFrom 0 (l.take (j + 1)) = readsFrom 0 (l.take j); rw [reads_take l j hlt, ← HXe.out]; simp [isRead, h3]))
            go_wp2_with fail
            go_roundw
            case rel => exact ⟨j + 1, _, by go_num, rfl, HN.out⟩
            case measure => simp [intOf]; omega
          | true =>
            have HFx : Hid (readsFrom 0 (l.take (j + 1)) = readsFrom 0 (l.take j) ++ [readOf x j]) := Lib.hid (by rw [reads_take l j hlt, ← HXe.out]; simp [isRead, h1, h2, h3])
            have HO3 := Lib.hid (ownsRow_below HJ.out.own HBr.out)
            have hlen := reads_take_len l j
            have hz := HJ.out.low.size
            have hz3 := HBr.out.size
            go_wp2_with (at_builtin; refine wpList_append_own_at _ rfl _ _ 41 rfl w.heap.size 44 i0 _ 5 56 Tryz.underlying41 HI.out HZ0.out HZ1.out HZ2.out rfl (by decide) _ _ _ rfl (HO3.out.alloc _) ⟨w5.heap.size, 0, none⟩ 1 1 [.int .i64 x.number, .int .i64 (j : Int), .int .i64 (j : Int), .string ⟨x.text.toArray⟩, .string ⟨x.result.toArray⟩] rfl rfl (cell_new _ _ _ _ rfl) (by simp [Value.oneCell']) (by simp [maxLen]; omega) (by omega) (by simp; omega) ?_)
            intro v' w6 hown' hgrow _ hat
            have HN : Hid (OpSt (fun j => readsFrom 0 (l.take j)) w l.length (j + 1) v' w6) := Lib.hid (HJ.out.more (bon HBr.out (below_new w5 (.cells #[.int .i64 x.number, .int .i64 (j : Int), .int .i64 (j : Int), .string ⟨x.text.toArray⟩, .string ⟨x.result.toArray⟩] 44))) hlt HFx.out hown' hgrow)
            clear hown' hgrow hat
            go_wp2_with fail
            go_roundw
            case rel => exact ⟨j + 1, _, by go_num, rfl, HN.out⟩
            case measure => simp [intOf]; omega
      · have h1' : (x.kind == 5) = false := by simpa using h1
        have HN : Hid (OpSt (fun j => readsFrom 0 (l.take j)) w l.length (j + 1) o w3) := Lib.hid (HJ.out.skip HBr.out hlt (by show readsFrom 0 (l.take (j + 1)) = readsFrom 0 (l.take j); rw [reads_take l j hlt, ← HXe.out]; simp [isRead, h1]))
        go_wp2_with fail
        go_roundw
        case rel => exact ⟨j + 1, _, by go_num, rfl, HN.out⟩
        case measure => simp [intOf]; omega
    · obtain rfl : j = l.length := by omega
      have hown := HJ.out.own
      simp only [List.take_length] at hown
      obtain ⟨a, c', rfl⟩ := ownsRow_form hown
      have HOw := Lib.hid hown
      clear hown
      go_wp2_with fail
      go_ret
      exact ret_ops rfl HOw.out HJ.out.low
end Go.Proofs.YtepbbaifpckcpaaGreatDoor
/- The contracts of slices.Clone at points, of SameOperations. -/
namespace Go.Proofs.YtepbbaifpckcpaaGreatDoor
open Go.RowKit

theorem row_max {w : World} {base e k n : Nat} {A : Option Addr} {c : Nat} {xs : List Value} (h : w.ownsRow base e k (.slice A n c) n xs) : c ≤ 9223372036854775807 := by
  rcases h.2 with ⟨h1, h2⟩ | ⟨g, cap, cur, hv, _, _, _, hm, _⟩
  · injection h1 with _ _ h3
    omega
  · injection hv with _ _ h3
    subst h3
    unfold maxLen at hm
    omega
theorem infoPtr : (Tryz.prog.info? 40).map (fun i => (i.zero, i.size, i.bytes)) = some (some (.agg (ptC pt0).toArray), 28, 368) := by kernel_rfl
theorem ptsC_one (l : List Pt) : ∀ u ∈ l.flatMap ptC, u.oneCell' = true := by
  intro u hu
  obtain ⟨x, _, hx⟩ := List.mem_flatMap.1 hu
  have h := ptC_one x
  rw [List.all_toArray] at h
  exact List.all_eq_true.1 h u hx
/-- a list in a row of the call's own -/
def RetPts (l : List Pt) (w : World) (e : Ending) (w' : World) : Prop := ∃ A c, e = .returned (.slice A l.length c) ∧ w'.ownsRow w.heap.size 40 28 (.slice A l.length c) l.length (l.flatMap ptC) ∧ Below w.heap.size w w'
theorem RetPts.ret {l : List Pt} {w w' : World} {n c : Nat} {A : Option Addr} (hn : n = l.length) (h : w'.ownsRow w.heap.size 40 28 (.slice A n c) n (l.flatMap ptC)) (hb : Below w.heap.size w w') : RetPts l w (.returned (.slice A n c)) w' := by
  subst hn; exact ⟨A, c, rfl, h, hb⟩
set_option maxRecDepth 100000 in
set_option maxHeartbeats 1000000 in
theorem clonePt_any (A : Option Addr) (c : Nat) (l : List Pt) (w : World) (h : Rd w 28 A l.length (l.flatMap ptC)) (hn : l.length ≤ 1048576) :
    Calls Tryz.prog 13 #[.slice A l.length c] w (RetPts l w) := by
  obtain ⟨i0, hi, hz0, hz1, hz2⟩ := info_parts infoPtr
  have HI := Lib.hid hi
  have HZ0 := Lib.hid hz0
  have HZ1 := Lib.hid hz1
  have HZ2 := Lib.hid hz2
  have HR := Lib.hid h
  have HOne := Lib.hid (ptsC_one l)
  have q22 : ∀ (w : World) (a : Option Addr) (n c n' c' : Nat), (binOp .eql 22 (.slice a n c) (.slice none n' c')).run Tryz.prog w = .ok (.bool a.isNone) w := fun w a n c n' c' => Lib.run_eql_slice_nil w _ _ a n c n' c' Tryz.underlying22
  clear hi hz0 hz1 hz2 h
  cases A with
  | none =>
    have hl : l.length = 0 := by
      by_cases hp : 0 < l.length
      · obtain ⟨b, o, e, _⟩ := HR.out.cells (by rw [flat_len ptC 28 ptC_len]; omega)
        simp at e
      · omega
    obtain rfl : l = [] := List.eq_nil_of_length_eq_zero hl
    clear hl
    go_enter Tryz.func13, Tryz.ntmps13
    go_wp2_with fail
    go_ret
    exact RetPts.ret rfl (World.ownsRow_nil _ _ _ _) (Below.refl _ _)
  | some a =>
    have HO := Lib.hid (World.ownsRow_lit (base := w.heap.size) (e := 40) (size := 28) w #[] 0 (Nat.le_refl _) (by simp) rfl)
    have hnews : ∀ j u, (l.flatMap ptC)[j]? = some u → (w.alloc (.cells #[] 40)).cell? (a.add j) = some u := fun j u hu => by
      have hj : j < (l.flatMap ptC).length := (List.getElem?_eq_some_iff.1 hu).1
      obtain ⟨b, o, e, hb, hc⟩ := HR.out.cells (by omega)
      simp only [Option.some.injEq] at e
      subst e
      rw [add_plain']
      exact ((below_new w _).cell (p := ⟨b, o + j, none⟩) hb).trans (hc j u hu)
    have HN := Lib.hid hnews
    have HLen := Lib.hid (flat_len ptC 28 ptC_len l)
    clear hnews
    go_enter Tryz.func13, Tryz.ntmps13
    go_wp2_with (at_builtin; refine wpList_append_own _ rfl _ _ 22 rfl w.heap.size 40 i0 _ 28 368 Tryz.underlying22 HI.out HZ0.out HZ1.out HZ2.out rfl (by decide) _ 0 [] rfl HO.out a l.length c (l.flatMap ptC) rfl HLen.out HN.out HOne.out (by simp [maxLen]; omega) (by omega) (by simp) ?_)
    intro v' w2 hown' hgrow _
    obtain ⟨A, c2, hv⟩ := ownsRow_form hown'
    subst hv
    have HO2 := Lib.hid hown'
    have HG2 := Lib.hid hgrow
    clear hown' hgrow
    go_wp2_with fail
    go_ret
    exact RetPts.ret rfl HO2.out (below_grown (below_new w _) (by simp) HG2.out (fun g hg => by simp [Value.ownBlock] at hg; omega))
theorem pts_own {l : List Pt} {w w' : World} {A : Option Addr} {c base : Nat} (h : w'.ownsRow base 40 28 (.slice A l.length c) l.length (l.flatMap ptC)) (hok : ∀ x ∈ l, x.ok w) (hb : Below w.heap.size w w') : PtsIn w' A l ∧ l.length ≤ c ∧ c ≤ 9223372036854775807 :=
  ⟨⟨Rd.own h, fun x hx => Pt.below (hok x hx) hb⟩, own_cap h, row_max h⟩
theorem draw_two (w : World) (a b : Nat) : (w.drewN a).drewN b = w.drewN (a + b) := by
  first | rfl | simp [World.drewN, Nat.add_assoc]
theorem draws_below (w : World) (q : Nat) : Below w.heap.size w (w.drewN q) := bdN (Below.refl _ _) q
theorem eqInOpn (x y : Opn) (w : World) : (Op.equalIn 10000 44 (.agg #[.int .i64 x.client, .int .i64 x.first, .int .i64 x.last, .string ⟨x.op.toArray⟩, .string ⟨x.result.toArray⟩]) (.agg #[.int .i64 y.client, .int .i64 y.first, .int .i64 y.last, .string ⟨y.op.toArray⟩, .string ⟨y.result.toArray⟩])).run Tryz.prog w = .ok (decide (x = y)) w := by
  have u3 := Tryz.underlying3
  have u9 := Tryz.underlying9
  have a3 := Tryz.isAgg3
  have z3 := Tryz.sizeOf3
  have a9 := Tryz.isAgg9
  have z9 := Tryz.sizeOf9
  have hS : Tryz.prog.underlying 44 = some (.struct (Tryz.prog.fieldsOf 44)) := by kernel_rfl
  have hp : Tryz.prog.stoodInHeld 44 = false := by kernel_rfl
  rw [show (10000 : Nat) = 9999 + 1 from rfl, run_equalIn_struct w 9999 44 _ _ hS hp]
  simp only [Program.fieldsOf, Tryz.underlying44]
  go_simp
  obtain ⟨a0, a1, a2, a3, a4⟩ := x
  obtain ⟨b0, b1, b2, b3, b4⟩ := y
  by_cases h0 : a0 = b0 <;> by_cases h1 : a1 = b1 <;> by_cases h2 : a2 = b2 <;> by_cases h3 : a3 = b3 <;> by_cases h4 : a4 = b4 <;> simp [h0, h1, h2, h3, h4]
theorem neqOpn (x y : Opn) (w : World) : (binOp .neq 44 (.agg #[.int .i64 x.client, .int .i64 x.first, .int .i64 x.last, .string ⟨x.op.toArray⟩, .string ⟨x.result.toArray⟩]) (.agg #[.int .i64 y.client, .int .i64 y.first, .int .i64 y.last, .string ⟨y.op.toArray⟩, .string ⟨y.result.toArray⟩])).run Tryz.prog w = .ok (.bool (!decide (x = y))) w := by
  have h := eqInOpn x y w
  simp only [binOp]
  simp [Op.equal, Op.maxDepth, h]
set_option maxRecDepth 100000 in
set_option maxHeartbeats 2000000 in
theorem sameOps_any (A B : Option Addr) (c d : Nat) (l m : List Opn) (w : World) (h : Rd w 5 A l.length (l.flatMap opC)) (h2 : Rd w 5 B m.length (m.flatMap opC)) (hf : l.length ≤ 1099511627776) (hf2 : m.length ≤ 1099511627776) :
    Calls Tryz.prog 17 #[.slice A l.length c, .slice B m.length d] w fun e w' => e = .returned (.bool (decide (l = m))) ∧ ∃ q, w' = w.drewN q := by
  have HR := Lib.hid h
  have HS := Lib.hid h2
  clear h h2
  by_cases hlen : l.length = m.length
  · have hlb : ((l.length : Int) == (m.length : Int)) = true := by rw [beq_iff_eq]; omega
    have hlb2 : ((l.length : Int) != (m.length : Int)) = false := by simp; omega
    have HLen := Lib.hid hlen
    clear hlen
    go_enter Tryz.func17, Tryz.ntmps17
    go_wp2_with fail
    go_loopw [5] (fun i wr => ∃ k q : Nat, i = .int .i64 k ∧ k ≤ l.length ∧ l.take k = m.take k ∧ wr = w.drewN q) (fun i _ => l.length - (intOf i).toNat)
    case atStart => exact ⟨0, 0, rfl, by omega, rfl, rfl⟩
    case round =>
      obtain ⟨k, q, rfl, hk, htk, rfl⟩ := hrel
      have HT := Lib.hid htk
      clear htk
      have hle := HLen.out
      by_cases hlt : k < l.length
      · have i0 : (0 : Int) ≤ (k : Int) := by omega
        have i1 : (k : Int) < (l.length : Int) := by omega
        have hlt2 : k < m.length := by omega
        have i2 : (k : Int) < (m.length : Int) := by omega
        obtain ⟨g, o, rfl, hg, hcc⟩ := HR.out.at opC_len (by omega) hlt
        obtain ⟨g2, o2, rfl, hg2, hcc2⟩ := HS.out.at opC_len (by omega) hlt2
        have a0 := hcc w (Below.refl _ _) 0 _ rfl
        have a1 := hcc w (Below.refl _ _) 1 _ rfl
        have a2 := hcc w (Below.refl _ _) 2 _ rfl
        have a3 := hcc w (Below.refl _ _) 3 _ rfl
        have a4 := hcc w (Below.refl _ _) 4 _ rfl
        have b0 := hcc2 w (Below.refl _ _) 0 _ rfl
        have b1 := hcc2 w (Below.refl _ _) 1 _ rfl
        have b2 := hcc2 w (Below.refl _ _) 2 _ rfl
        have b3 := hcc2 w (Below.refl _ _) 3 _ rfl
        have b4 := hcc2 w (Below.refl _ _) 4 _ rfl
        simp only [Nat.add_zero] at a0 b0
        have hn := neqOpn l[k] m[k]
        clear hcc hcc2 hle
        by_cases hx : l[k] = m[k]
        · have HY : Hid (l.take (k + 1) = m.take (k + 1)) := Lib.hid (by rw [List.take_succ_eq_append_getElem hlt, List.take_succ_eq_append_getElem hlt2, HT.out, hx])
          rw [decide_eq_true hx] at hn
          clear hx
          go_wp2_with fail
          go_quiet (fail)
          all_goals
            go_wp2_with fail
            go_roundw
            case rel => exact ⟨k + 1, q + nq, by go_num, by omega, HY.out, by first | rfl | exact draw_two _ _ _⟩
            case measure => simp [intOf]; omega
        · have HY : Hid (decide (l = m) = false) := Lib.hid (by
            rw [decide_eq_false_iff_not]
            rintro rfl
            exact hx rfl)
          rw [decide_eq_false hx] at hn
          clear hx
          go_wp2_with fail
          go_quiet (fail)
          all_goals
            go_wp2_with fail
            go_ret
            exact ⟨ret_bool HY.out.symm, q + nq, by first | rfl | exact draw_two _ _ _⟩
      · have HY : Hid (decide (l = m) = true) := Lib.hid (by
          rw [decide_eq_true_eq]
          have := HT.out
          rwa [List.take_of_length_le (by omega), List.take_of_length_le (by omega)] at this)
        go_wp2_with fail
        go_ret
        exact ⟨ret_bool HY.out.symm, q, rfl⟩
  · have hlb : ((l.length : Int) == (m.length : Int)) = false := by rw [beq_eq_false_iff_ne]; omega
    have hlb2 : ((l.length : Int) != (m.length : Int)) = true := by simp; omega
    have HY : Hid (decide (l = m) = false) := Lib.hid (by
      rw [decide_eq_false_iff_not]
      rintro rfl
      exact hlen rfl)
    clear hlen
    go_enter Tryz.func17, Tryz.ntmps17
    go_wp2_with fail
    go_ret
    exact ⟨ret_bool HY.out.symm, 0, rfl⟩
end Go.Proofs.YtepbbaifpckcpaaGreatDoor
/- A table of rows that grow, each in a block of its own. -/
namespace Go.Proofs.YtepbbaifpckcpaaGreatDoor
open Go.RowKit

theorem ownsRow_same {w w' : World} {base e k n : Nat} {v : Value} {xs : List Value} (h : w.ownsRow base e k v n xs) (hs : ∀ b, v.ownBlock = some b → w'.heap[b]? = w.heap[b]?) : w'.ownsRow base e k v n xs := by
  refine ⟨h.1, ?_⟩
  rcases h.2 with h1 | ⟨g, cap, cur, hv, hge, hg, rest⟩
  · exact .inl h1
  · exact .inr ⟨g, cap, cur, hv, hge, (hs g (by rw [hv]; rfl)).trans hg, rest⟩
/-- block g is a table of n slices; row i holds the elements L i, in a block of its own -/
structure Tab {α : Type} (w0 : World) (tt e k : Nat) (C : α → List Value) (n g : Nat) (L : Nat → List α) (vs : Nat → Value) (w : World) : Prop where
  g0 : w0.heap.size ≤ g
  tab : w.rowIs g tt n vs
  rows : ∀ i, i < n → w.ownsRow (g + 1) e k (vs i) (L i).length ((L i).flatMap C)
  apart : ∀ i j, i < n → j < n → i ≠ j → ∀ b, (vs i).ownBlock = some b → (vs j).ownBlock ≠ some b
  low : Below w0.heap.size w0 w
section
variable {α : Type} {w0 w w' : World} {tt e k n g : Nat} {C : α → List Value} {L : Nat → List α} {vs : Nat → Value}
theorem Tab.below (h : Tab w0 tt e k C n g L vs w) (hb : Below w.heap.size w w') : Tab w0 tt e k C n g L vs w' where
  g0 := h.g0
  tab := h.tab.of_block (hb.block g h.tab.lt)
  rows := fun i hi => ownsRow_below (h.rows i hi) hb
  apart := h.apart
  low := bon h.low hb
theorem Tab.rename (h : Tab w0 tt e k C n g L vs w) {L' : Nat → List α} (hL : ∀ i, i < n → L' i = L i) : Tab w0 tt e k C n g L' vs w where
  g0 := h.g0
  tab := h.tab
  rows := fun i hi => by rw [hL i hi]; exact h.rows i hi
  apart := h.apart
  low := h.low
theorem Tab.new {w1 : World} (hb : Below w0.heap.size w0 w1) (hg : g = w1.heap.size) : Tab w0 tt e k C n g (fun _ => []) (fun _ => .slice none 0 0) (w1.alloc (.cells (madeCells #[.slice none 0 0] n) tt)) where
  g0 := by rw [hg]; exact hb.size
  tab := by rw [hg]; exact World.rowIs_made _ _ _ _
  rows := fun _ _ => World.ownsRow_nil _ _ _ _
  apart := fun _ _ _ _ _ _ h => by cases h
  low := bon hb (below_new _ _)
theorem Tab.grow (h : Tab w0 tt e k C n g L vs w) {w4 : World} {i : Nat} (hi : i < n) {v' : Value} {x : α} (hown : w4.ownsRow (g + 1) e k v' ((L i).length + 1) ((L i).flatMap C ++ C x)) (hgr : w.grownBy w4 (vs i).ownBlock)
    (hat : v'.ownBlock = (vs i).ownBlock ∨ v'.ownBlock = some w.heap.size) :
    Tab w0 tt e k C n g (fun j => if j = i then L i ++ [x] else L j) (fun j => if j = i then v' else vs j) (w4.setCell ⟨g, i, none⟩ v') := by
  have hne : ∀ b, (vs i).ownBlock = some b → g + 1 ≤ b ∧ b < w.heap.size := (h.rows i hi).lt
  have hg : (vs i).ownBlock ≠ some g := fun e1 => by have := (hne g e1).1; omega
  refine ⟨h.g0, ?_, ?_, ?_, ?_⟩
  · exact ((h.tab.of_block (hgr.block g h.tab.lt (fun e1 => hg e1.symm))).set i v')
  · intro j hj
    by_cases hji : j = i
    · subst hji
      simp only [if_true]
      have := ownsRow_same hown (w' := w4.setCell ⟨g, j, none⟩ v') (fun b hb => Below.heap_setCell _ _ _ _ (by have := (hown.lt b hb).1; show b ≠ g; omega))
      rw [List.length_append, List.flatMap_append]
      simpa using this
    · simp only [hji, if_false]
      refine ownsRow_same (h.rows j hj) (fun b hb => ?_)
      have h1 := (h.rows j hj).lt b hb
      rw [Below.heap_setCell _ _ _ _ (by show b ≠ g; omega)]
      exact hgr.block b h1.2 (fun e1 => h.apart i j hi hj (fun e2 => hji e2.symm) b e1.symm hb)
  · intro p q hp hq hpq b hb
    by_cases hpi : p = i
    · subst hpi
      have hqi : ¬ q = p := fun e1 => hpq e1.symm
      simp only [if_true] at hb
      simp only [hqi, if_false]
      intro hc
      rcases hat with h1 | h1
      · exact h.apart p q hp hq hpq b (by rw [← h1]; exact hb) hc
      · rw [h1] at hb
        have := ((h.rows q hq).lt b hc).2
        simp only [Option.some.injEq] at hb
        omega
    · simp only [hpi, if_false] at hb
      by_cases hqi : q = i
      · subst hqi
        simp only [if_true]
        intro hc
        rcases hat with h1 | h1
        · exact h.apart p q hp hq hpq b hb (by rw [← h1]; exact hc)
        · rw [h1] at hc
          have := ((h.rows p hp).lt b hb).2
          simp only [Option.some.injEq] at hc
          omega
      · simp only [hqi, if_false]
        exact h.apart p q hp hq hpq b hb
  · exact (below_grown h.low h.low.size hgr (fun b hb => by have := (hne b hb).1; have := h.g0; omega)).setCell (by have := h.g0; exact this) v'
theorem Tab.at (h : Tab w0 tt e k C n g L vs w) {i : Nat} (hi : i < n) : w.cell? ⟨g, i, none⟩ = some (vs i) := h.tab.cell hi
theorem Tab.free (h : Tab w0 tt e k C n g L vs w) (i : Nat) : w.frozen? ⟨g, i, none⟩ = false := h.tab.frozen i
end
/-- a list of lists that stands -/
structure Grid {α : Type} (k : Nat) (C : α → List Value) (n : Nat) (A : Option Addr) (L : Nat → List α) (w : World) : Prop where
  at' : ∃ g, A = some ⟨g, 0, none⟩ ∧ g < w.heap.size ∧ ∀ i, i < n → ∃ Ai ci, w.cell? ⟨g, i, none⟩ = some (.slice Ai (L i).length ci) ∧ Rd w k Ai (L i).length ((L i).flatMap C) ∧ (L i).length ≤ ci ∧ ci ≤ 9223372036854775807
theorem Tab.grid {α : Type} {w0 w : World} {tt e k n g : Nat} {C : α → List Value} {L : Nat → List α} {vs : Nat → Value} (h : Tab w0 tt e k C n g L vs w) : Grid k C n (some ⟨g, 0, none⟩) L w where
  at' := ⟨g, rfl, h.tab.lt, fun i hi => by
    have hr := h.rows i hi
    obtain ⟨Ai, ci, hv⟩ := ownsRow_form hr
    refine ⟨Ai, ci, by rw [← hv]; exact h.at hi, ?_⟩
    rw [hv] at hr
    refine ⟨Rd.own hr, own_cap hr, ?_⟩
    rcases hr.2 with ⟨h1, h2⟩ | ⟨b, cap, cur, hv', _, _, _, hm, _⟩
    · injection h1 with _ _ h3
      omega
    · injection hv' with _ _ h3
      subst h3
      unfold maxLen at hm
      omega⟩
theorem Grid.below {α : Type} {w w' : World} {k n : Nat} {C : α → List Value} {A : Option Addr} {L : Nat → List α} (h : Grid k C n A L w) (hb : Below w.heap.size w w') : Grid k C n A L w' where
  at' := by
    obtain ⟨g, hA, hg, hi⟩ := h.at'
    refine ⟨g, hA, Nat.lt_of_lt_of_le hg hb.size, fun i hn => ?_⟩
    obtain ⟨Ai, ci, hc, hr, h1, h2⟩ := hi i hn
    exact ⟨Ai, ci, (hb.cell (p := ⟨g, i, none⟩) hg).trans hc, hr.below hb, h1, h2⟩
/-- the logs of points -/
def LogTab (w0 : World) (l : List Pt) (g j : Nat) (vs : Nat → Value) (w : World) : Prop := Tab w0 58 60 2 slC 18 g (fun i => logOf (l.take j) i) vs w
theorem LogTab.skip {w0 w : World} {l : List Pt} {g j : Nat} {vs : Nat → Value} (h : LogTab w0 l g j vs w) (hj : j < l.length) (hp : logPlace l[j] = none) : LogTab w0 l g (j + 1) vs w :=
  Tab.rename h (fun i _ => by rw [logOf_take l j hj i, hp]; simp)
theorem LogTab.more {w0 w w4 : World} {l : List Pt} {g j i : Nat} {vs : Nat → Value} (h : LogTab w0 l g j vs w) (hj : j < l.length) (hp : logPlace l[j] = some i) {v' : Value}
    (hown : w4.ownsRow (g + 1) 60 2 v' ((logOf (l.take j) i).length + 1) ((logOf (l.take j) i).flatMap slC ++ slC (l[j].slot, l[j].text))) (hgr : w.grownBy w4 (vs i).ownBlock)
    (hat : v'.ownBlock = (vs i).ownBlock ∨ v'.ownBlock = some w.heap.size) : LogTab w0 l g (j + 1) (fun q => if q = i then v' else vs q) (w4.setCell ⟨g, i, none⟩ v') :=
  Tab.rename (Tab.grow h (logPlace_lt hp) hown hgr hat) (fun q _ => by
    rw [logOf_take l j hj q, hp]
    by_cases hq : q = i
    · subst hq; simp
    · have : ¬ (i = q) := fun e1 => hq e1.symm
      simp [hq, this])
/-- logs come back -/
def RetLogs (L : Nat → List Slt) (w : World) (e : Ending) (w' : World) : Prop := ∃ A, e = .returned (.slice A 18 18) ∧ Grid 2 slC 18 A L w' ∧ Below w.heap.size w w'
end Go.Proofs.YtepbbaifpckcpaaGreatDoor
/- The contracts of SameLogs, slices.Equal and slices.Clone at Slotted. -/
namespace Go.Proofs.YtepbbaifpckcpaaGreatDoor
open Go.RowKit

theorem infoSlr : (Tryz.prog.info? 60).map (fun i => (i.zero, i.size, i.bytes)) = some (some (.agg #[.int .i64 0, .string ⟨#[]⟩]), 2, 24) := by kernel_rfl
theorem eqInSlt (x y : Slt) (w : World) : (Op.equalIn 10000 60 (.agg #[.int .i64 x.1, .string ⟨x.2.toArray⟩]) (.agg #[.int .i64 y.1, .string ⟨y.2.toArray⟩])).run Tryz.prog w = .ok (decide (x = y)) w := by
  have u3 := Tryz.underlying3
  have u9 := Tryz.underlying9
  have a3 := Tryz.isAgg3
  have z3 := Tryz.sizeOf3
  have a9 := Tryz.isAgg9
  have z9 := Tryz.sizeOf9
  have hS : Tryz.prog.underlying 60 = some (.struct (Tryz.prog.fieldsOf 60)) := by kernel_rfl
  have hp : Tryz.prog.stoodInHeld 60 = false := by kernel_rfl
  rw [show (10000 : Nat) = 9999 + 1 from rfl, run_equalIn_struct w 9999 60 _ _ hS hp]
  simp only [Program.fieldsOf, Tryz.underlying60]
  go_simp
  obtain ⟨a0, a1⟩ := x
  obtain ⟨b0, b1⟩ := y
  by_cases h0 : a0 = b0 <;> by_cases h1 : a1 = b1 <;> simp [h0, h1]
theorem neqSlt (x y : Slt) (w : World) : (binOp .neq 60 (.agg #[.int .i64 x.1, .string ⟨x.2.toArray⟩]) (.agg #[.int .i64 y.1, .string ⟨y.2.toArray⟩])).run Tryz.prog w = .ok (.bool (!decide (x = y))) w := by
  have h := eqInSlt x y w
  simp only [binOp]
  simp [Op.equal, Op.maxDepth, h]
theorem neqSelf (x : Slt) (w : World) : (binOp .neq 60 (.agg #[.int .i64 x.1, .string ⟨x.2.toArray⟩]) (.agg #[.int .i64 x.1, .string ⟨x.2.toArray⟩])).run Tryz.prog w = .ok (.bool false) w := by
  rw [neqSlt, decide_eq_true rfl]; rfl
set_option maxRecDepth 100000 in
set_option maxHeartbeats 4000000 in
/-- two lists of logs that hold the same -/
theorem sameLogs_any (A B : Option Addr) (L : Nat → List Slt) (w : World) (h : Grid 2 slC 18 A L w) (h2 : Grid 2 slC 18 B L w) (hL : ∀ i, (L i).length ≤ 1099511627776) :
    Calls Tryz.prog 26 #[.slice A 18 18, .slice B 18 18] w fun e w' => e = .returned (.bool true) ∧ ∃ q, w' = w.drewN q := by
  obtain ⟨ga, rfl, hga, HA0⟩ := h.at'
  obtain ⟨gb, rfl, hgb, HB0⟩ := h2.at'
  have HA := Lib.hid HA0
  have HB := Lib.hid HB0
  clear HA0 HB0 h h2
  go_enter Tryz.func26, Tryz.ntmps26
  go_wp2_with fail
  go_loopw [5] (fun i wr => ∃ k q : Nat, i = .int .i64 k ∧ k ≤ 18 ∧ wr = w.drewN q) (fun i _ => 18 - (intOf i).toNat)
  case atStart => exact ⟨0, 0, rfl, by omega, rfl⟩
  case round =>
    rename World => wo
    obtain ⟨k, q, rfl, hk, rfl⟩ := hrel
    by_cases hlt : k < 18
    · have i0' : (0 : Int) ≤ (k : Int) := by omega
      have i1 : (k : Int) < 18 := by omega
      obtain ⟨Ai, ci, cA, rA, _, _⟩ := HA.out k hlt
      obtain ⟨Bi, di, cB, rB, _, _⟩ := HB.out k hlt
      have HRA := Lib.hid rA
      have HRB := Lib.hid rB
      have hn := hL k
      clear rA rB
      generalize L k = l at cA cB HRA HRB hn
      have hlb2 : ((l.length : Int) != (l.length : Int)) = false := by simp
      go_wp2_with fail
      go_quiet (fail)
      all_goals
        rw [draw_two]
        go_wp2_with fail
        go_loopw [6] (fun i wx => ∃ m p : Nat, i = .int .i64 m ∧ m ≤ l.length ∧ wx = w.drewN p) (fun i _ => l.length - (intOf i).toNat)
        case atStart => exact ⟨0, _, rfl, by omega, rfl⟩
        case round =>
          rename World => wx
          obtain ⟨m, p, rfl, hm, rfl⟩ := hrel
          by_cases hlt2 : m < l.length
          · have j0' : (0 : Int) ≤ (m : Int) := by omega
            have j1 : (m : Int) < (l.length : Int) := by omega
            obtain ⟨g, o, rfl, hg, hcc⟩ := HRA.out.at slC_len (by omega) hlt2
            obtain ⟨g2, o2, rfl, hg2, hcc2⟩ := HRB.out.at slC_len (by omega) hlt2
            have a0 := hcc w (Below.refl _ _) 0 _ rfl
            have a1 := hcc w (Below.refl _ _) 1 _ rfl
            have b0 := hcc2 w (Below.refl _ _) 0 _ rfl
            have b1 := hcc2 w (Below.refl _ _) 1 _ rfl
            simp only [Nat.add_zero] at a0 b0
            have hne := neqSelf l[m]
            clear hcc hcc2
            go_wp2_with fail
            go_quiet (fail)
            all_goals
              go_wp2_with fail
              go_roundw
              case rel => exact ⟨m + 1, p + nq, by go_num, by omega, by first | rfl | exact draw_two _ _ _⟩
              case measure => simp [intOf]; omega
          · obtain rfl : m = l.length := by omega
            go_wp2_with fail
            go_roundw
            case rel => exact ⟨k + 1, p, by go_num, by omega, rfl⟩
            case measure => simp [intOf]; omega
    · obtain rfl : k = 18 := by omega
      go_wp2_with fail
      go_ret
      exact ⟨rfl, q, rfl⟩
set_option maxRecDepth 100000 in
set_option maxHeartbeats 4000000 in
theorem eqSl_any (A B : Option Addr) (c d : Nat) (l : List Slt) (w : World) (h : Rd w 2 A l.length (l.flatMap slC)) (h2 : Rd w 2 B l.length (l.flatMap slC)) (hn : l.length ≤ 1099511627776) :
    Calls Tryz.prog 29 #[.slice A l.length c, .slice B l.length d] w fun e w' => e = .returned (.bool true) ∧ ∃ q, w' = w.drewN q := by
  have HRA := Lib.hid h
  have HRB := Lib.hid h2
  have hlb2 : ((l.length : Int) != (l.length : Int)) = false := by simp
  clear h h2
  go_enter Tryz.func29, Tryz.ntmps29
  go_wp2_with fail
  go_loopw [13] (fun i wx => ∃ m p : Nat, i = .int .i64 m ∧ m ≤ l.length ∧ wx = w.drewN p) (fun i _ => l.length - (intOf i).toNat)
  case atStart => exact ⟨0, 0, rfl, by omega, rfl⟩
  case round =>
    rename World => wx
    obtain ⟨m, p, rfl, hm, rfl⟩ := hrel
    by_cases hlt2 : m < l.length
    · have j0' : (0 : Int) ≤ (m : Int) := by omega
      have j1 : (m : Int) < (l.length : Int) := by omega
      obtain ⟨g, o, rfl, hg, hcc⟩ := HRA.out.at slC_len (by omega) hlt2
      obtain ⟨g2, o2, rfl, hg2, hcc2⟩ := HRB.out.at slC_len (by omega) hlt2
      have a0 := hcc w (Below.refl _ _) 0 _ rfl
      have a1 := hcc w (Below.refl _ _) 1 _ rfl
      have b0 := hcc2 w (Below.refl _ _) 0 _ rfl
      have b1 := hcc2 w (Below.refl _ _) 1 _ rfl
      simp only [Nat.add_zero] at a0 b0
      have hne := neqSelf l[m]
      clear hcc hcc2
      go_wp2_with fail
      go_quiet (fail)
      all_goals
        go_wp2_with fail
        go_roundw
        case rel => exact ⟨m + 1, p + nq, by go_num, by omega, by first | rfl | exact draw_two _ _ _⟩
        case measure => simp [intOf]; omega
    · obtain rfl : m = l.length := by omega
      go_wp2_with fail
      go_ret
      exact ⟨rfl, p, rfl⟩
theorem slsC_one (l : List Slt) : ∀ u ∈ l.flatMap slC, u.oneCell' = true := by
  intro u hu
  rw [List.mem_flatMap] at hu
  obtain ⟨x, _, hx⟩ := hu
  simp only [slC, List.mem_cons, List.not_mem_nil, or_false] at hx
  rcases hx with rfl | rfl <;> rfl
/-- a log in a row of the call's own -/
def RetSls (l : List Slt) (w : World) (e : Ending) (w' : World) : Prop := ∃ A c, e = .returned (.slice A l.length c) ∧ w'.ownsRow w.heap.size 60 2 (.slice A l.length c) l.length (l.flatMap slC) ∧ Below w.heap.size w w'
theorem RetSls.ret {l : List Slt} {w w' : World} {n c : Nat} {A : Option Addr} (hn : n = l.length) (h : w'.ownsRow w.heap.size 60 2 (.slice A n c) n (l.flatMap slC)) (hb : Below w.heap.size w w') : RetSls l w (.returned (.slice A n c)) w' := by
  subst hn; exact ⟨A, c, rfl, h, hb⟩
set_option maxRecDepth 100000 in
set_option maxHeartbeats 1000000 in
theorem cloneSl_any (A : Option Addr) (c : Nat) (l : List Slt) (w : World) (h : Rd w 2 A l.length (l.flatMap slC)) (hn : l.length ≤ 1048576) :
    Calls Tryz.prog 30 #[.slice A l.length c] w (RetSls l w) := by
  obtain ⟨i0, hi, hz0, hz1, hz2⟩ := info_parts infoSlr
  have HI := Lib.hid hi
  have HZ0 := Lib.hid hz0
  have HZ1 := Lib.hid hz1
  have HZ2 := Lib.hid hz2
  have HR := Lib.hid h
  have HOne := Lib.hid (slsC_one l)
  have q22 : ∀ (w : World) (a : Option Addr) (n c n' c' : Nat), (binOp .eql 58 (.slice a n c) (.slice none n' c')).run Tryz.prog w = .ok (.bool a.isNone) w := fun w a n c n' c' => Lib.run_eql_slice_nil w _ _ a n c n' c' Tryz.underlying58
  clear hi hz0 hz1 hz2 h
  cases A with
  | none =>
    have hl : l.length = 0 := by
      by_cases hp : 0 < l.length
      · obtain ⟨b, o, e, _⟩ := HR.out.cells (by rw [flat_len slC 2 slC_len]; omega)
        simp at e
      · omega
    obtain rfl : l = [] := List.eq_nil_of_length_eq_zero hl
    clear hl
    go_enter Tryz.func30, Tryz.ntmps30
    go_wp2_with fail
    go_ret
    exact RetSls.ret rfl (World.ownsRow_nil _ _ _ _) (Below.refl _ _)
  | some a =>
    have HO := Lib.hid (World.ownsRow_lit (base := w.heap.size) (e := 60) (size := 2) w #[] 0 (Nat.le_refl _) (by simp) rfl)
    have hnews : ∀ j u, (l.flatMap slC)[j]? = some u → (w.alloc (.cells #[] 60)).cell? (a.add j) = some u := fun j u hu => by
      have hj : j < (l.flatMap slC).length := (List.getElem?_eq_some_iff.1 hu).1
      obtain ⟨b, o, e, hb, hc⟩ := HR.out.cells (by omega)
      simp only [Option.some.injEq] at e
      subst e
      rw [add_plain']
      exact ((below_new w _).cell (p := ⟨b, o + j, none⟩) hb).trans (hc j u hu)
    have HN := Lib.hid hnews
    have HLen := Lib.hid (flat_len slC 2 slC_len l)
    clear hnews
    go_enter Tryz.func30, Tryz.ntmps30
    go_wp2_with (at_builtin; refine wpList_append_own _ rfl _ _ 58 rfl w.heap.size 60 i0 _ 2 24 Tryz.underlying58 HI.out HZ0.out HZ1.out HZ2.out rfl (by decide) _ 0 [] rfl HO.out a l.length c (l.flatMap slC) rfl HLen.out HN.out HOne.out (by simp [maxLen]; omega) (by omega) (by simp) ?_)
    intro v' w2 hown' hgrow _
    obtain ⟨A, c2, hv⟩ := ownsRow_form hown'
    subst hv
    have HO2 := Lib.hid hown'
    have HG2 := Lib.hid hgrow
    clear hown' hgrow
    go_wp2_with fail
    go_ret
    exact RetSls.ret rfl HO2.out (below_grown (below_new w _) (by simp) HG2.out (fun g hg => by simp [Value.ownBlock] at hg; omega))
end Go.Proofs.YtepbbaifpckcpaaGreatDoor
/- append of a list that stands to a row of one's own, whatever its address is. -/
namespace Go.Proofs.YtepbbaifpckcpaaGreatDoor
open Go.RowKit

section
variable {P : Program} {w : World}
theorem run_app_nil (base : Nat) (t ty e : TypeId) (i : TypeInfo) (size : Nat) (ht : P.underlying t = some (.slice e)) (hi : P.info? e = some i)
    (v : Value) (n : Nat) (xs : List Value) (hown : w.ownsRow base e size v n xs) (c : Nat) :
    (Builtin.append_ #[t, t] ty #[v, .slice none 0 c]).run P w = .ok v w := by
  rcases hown.2 with ⟨rfl, rfl⟩ | ⟨g, cap, cur, rfl, _, _, hnc, _⟩
  · simp [Builtin.append_, run_underlying ht, sizeOf, typeInfo, hi, Builtin.lenOf, Builtin.firstCells]
  · simp [Builtin.append_, run_underlying ht, sizeOf, typeInfo, hi, Builtin.lenOf, Builtin.firstCells, hnc, storeCells]
theorem run_app_rd (base : Nat) (t ty e : TypeId) (i : TypeInfo) (z : Value) (k bytes : Nat) (ht : P.underlying t = some (.slice e)) (hi : P.info? e = some i) (hz : i.zero = some z) (hsize : i.size = k) (hby : i.bytes = bytes) (hzs : z.cells.size = k) (hk : 0 < k)
    {A : Option Addr} {n c : Nat} {xs : List Value} (hown : w.ownsRow base e k (.slice A n c) n xs) {B : Option Addr} {m : Nat} (d : Nat) {ys : List Value} (hr : Rd w k B m ys) (h1 : ∀ u ∈ ys, u.oneCell' = true) (h63 : n + m ≤ maxLen) (hbytes : (n + m) * bytes ≤ 140737488355328) (hbase : base ≤ w.heap.size) :
    ∃ A' c' w', (Builtin.append_ #[t, t] ty #[.slice A n c, .slice B m d]).run P w = .ok (.slice A' (n + m) c') w' ∧ w'.ownsRow base e k (.slice A' (n + m) c') (n + m) (xs ++ ys) ∧ Below base w w' := by
  cases B with
  | none =>
    have hm : m = 0 := by
      rcases Nat.eq_zero_or_pos m with h | h
      · exact h
      · obtain ⟨b, o, e1, _⟩ := hr.cells (by rw [hr.len]; exact Nat.mul_pos h hk)
        cases e1
    subst hm
    have hys : ys = [] := List.eq_nil_of_length_eq_zero (by rw [hr.len]; simp)
    subst hys
    refine ⟨A, c, w, run_app_nil base t ty e i k ht hi _ _ _ hown d, by simpa using hown, Below.refl _ _⟩
  | some ad =>
    have hnews : ∀ j u, ys[j]? = some u → w.cell? (ad.add j) = some u := fun j u hu => by
      have hj : j < ys.length := (List.getElem?_eq_some_iff.1 hu).1
      obtain ⟨b, o, e1, _, hc⟩ := hr.cells (by omega)
      simp only [Option.some.injEq] at e1
      subst e1
      rw [add_plain']
      exact hc j u hu
    obtain ⟨v', w', g1, g2, g3, _, _⟩ := run_append_own_at (P := P) w base t ty e i z k bytes ht hi hz hsize hby hzs hk _ _ _ hown ad m d ys hr.len hnews h1 h63 hbytes hbase
    obtain ⟨A4, c4, hv4⟩ := ownsRow_form g2
    subst hv4
    exact ⟨A4, c4, w', g1, g2, below_grown (Below.refl _ _) hbase g3 (fun g hg => (hown.lt g hg).1)⟩
theorem wp_app_rd {o : Oper} {a : Act} {K : Act → World → Prop} {Q : Exit → Act → World → Prop} (s x : Operand) (t : TypeId)
    (ho : o.op = .call { callee := .builtin .append, args := #[s, x], argTypes := #[t, t] })
    (base : Nat) (e : TypeId) (i : TypeInfo) (z : Value) (k bytes : Nat) (ht : P.underlying t = some (.slice e)) (hi : P.info? e = some i) (hz : i.zero = some z) (hsize : i.size = k) (hby : i.bytes = bytes) (hzs : z.cells.size = k) (hk : 0 < k)
    {A : Option Addr} {n c : Nat} {xs : List Value} (hs : a.eval s = .slice A n c) (hown : w.ownsRow base e k (.slice A n c) n xs) {B : Option Addr} {m d : Nat} {ys : List Value} (hx : a.eval x = .slice B m d) (hr : Rd w k B m ys) (h1 : ∀ u ∈ ys, u.oneCell' = true) (h63 : n + m ≤ maxLen) (hbytes : (n + m) * bytes ≤ 140737488355328) (hbase : base ≤ w.heap.size)
    (h : ∀ A' c' w', w'.ownsRow base e k (.slice A' (n + m) c') (n + m) (xs ++ ys) → Below base w w' → K (a.put o.dst (.slice A' (n + m) c')) w') : o.wp P a w K Q := by
  obtain ⟨A', c', w', g1, g2, g3⟩ := run_app_rd (P := P) (w := w) base t o.type e i z k bytes ht hi hz hsize hby hzs hk hown d hr h1 h63 hbytes hbase
  unfold Oper.wp execOp
  simp only [ho, resolve, invoke, builtin, Sem.run_bind, Sem.run_pure, Result.andThen_ok, List.map_toArray, List.map_cons, List.map_nil, hs, hx, g1]
  exact h A' c' w' g2 g3
theorem wpList_app_rd {ops : Array Oper} {rest : List Oper} {o : Oper} {a : Act} {Q : Exit → Act → World → Prop} (hgd : o.guard = none) (s x : Operand) (t : TypeId)
    (ho : o.op = .call { callee := .builtin .append, args := #[s, x], argTypes := #[t, t] })
    (base : Nat) (e : TypeId) (i : TypeInfo) (z : Value) (k bytes : Nat) (ht : P.underlying t = some (.slice e)) (hi : P.info? e = some i) (hz : i.zero = some z) (hsize : i.size = k) (hby : i.bytes = bytes) (hzs : z.cells.size = k) (hk : 0 < k)
    {A : Option Addr} {n c : Nat} {xs : List Value} (hs : a.eval s = .slice A n c) (hown : w.ownsRow base e k (.slice A n c) n xs) {B : Option Addr} {m d : Nat} {ys : List Value} (hx : a.eval x = .slice B m d) (hr : Rd w k B m ys) (h1 : ∀ u ∈ ys, u.oneCell' = true) (h63 : n + m ≤ maxLen) (hbytes : (n + m) * bytes ≤ 140737488355328) (hbase : base ≤ w.heap.size)
    (h : ∀ A' c' w', w'.ownsRow base e k (.slice A' (n + m) c') (n + m) (xs ++ ys) → Below base w w' → wpList P ops Q rest (a.put o.dst (.slice A' (n + m) c')) w') : wpList P ops Q (o :: rest) a w :=
  wpList_plain hgd fun _ hK => wp_app_rd s x t ho base e i z k bytes ht hi hz hsize hby hzs hk hs hown hx hr h1 h63 hbytes hbase fun A' c' w' h1 h2 => hK _ _ (h A' c' w' h1 h2)
theorem step_app_rd {ops : Array Oper} {o : Oper} {a : Act} {K : Act → World → Prop} {Q : Exit → Act → World → Prop} {E : Prop} (hgd : o.guard = none) (s x : Operand) (t : TypeId)
    (ho : o.op = .call { callee := .builtin .append, args := #[s, x], argTypes := #[t, t] })
    (base : Nat) (e : TypeId) (i : TypeInfo) (z : Value) (k bytes : Nat) (ht : P.underlying t = some (.slice e)) (hi : P.info? e = some i) (hz : i.zero = some z) (hsize : i.size = k) (hby : i.bytes = bytes) (hzs : z.cells.size = k) (hk : 0 < k)
    {A : Option Addr} {n c : Nat} {xs : List Value} (hs : a.eval s = .slice A n c) (hown : w.ownsRow base e k (.slice A n c) n xs) {B : Option Addr} {m d : Nat} {ys : List Value} (hx : a.eval x = .slice B m d) (hr : Rd w k B m ys) (h1 : ∀ u ∈ ys, u.oneCell' = true) (h63 : n + m ≤ maxLen) (hbytes : (n + m) * bytes ≤ 140737488355328) (hbase : base ≤ w.heap.size)
    (h : ∀ A' c' w', w'.ownsRow base e k (.slice A' (n + m) c') (n + m) (xs ++ ys) → Below base w w' → K (a.put o.dst (.slice A' (n + m) c')) w') : if Region.wanted o (yielded ops a.tmps) = true then Oper.wp P o a w K Q else E := by
  have hw : Region.wanted o (yielded ops a.tmps) = true := by simp [Region.wanted, hgd]
  rw [if_pos hw]
  exact wp_app_rd s x t ho base e i z k bytes ht hi hz hsize hby hzs hk hs hown hx hr h1 h63 hbytes hbase h
end
end Go.Proofs.YtepbbaifpckcpaaGreatDoor
