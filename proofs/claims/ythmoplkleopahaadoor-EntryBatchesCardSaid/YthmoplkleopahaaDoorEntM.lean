/- The contract of entry.Batches: the way that divides. -/
import Derived.Test.YthmoplkleopahaaDoorEntL
namespace Go.Proofs.YthmoplkleopahaaDoor
open Go.RowKit

/-- two rows of the call's own of different element types never share a block -/
theorem own_apart {w : World} {b1 b2 e1 e2 k1 k2 n1 n2 : Nat} {v1 v2 : Value} {x1 x2 : List Value} (h1 : w.ownsRow b1 e1 k1 v1 n1 x1) (h2 : w.ownsRow b2 e2 k2 v2 n2 x2) (hne : e1 ≠ e2) : v1.ownBlock = none ∨ v1.ownBlock ≠ v2.ownBlock := by
  rcases h1.2 with ⟨rfl, _⟩ | ⟨g1, c1, cur1, rfl, _, hg1, _⟩
  · exact .inl rfl
  · right
    rcases h2.2 with ⟨rfl, _⟩ | ⟨g2, c2, cur2, rfl, _, hg2, _⟩
    · simp [Value.ownBlock]
    · intro he
      simp only [Value.ownBlock, Option.some.injEq] at he
      subst he
      rw [hg1] at hg2
      simp only [Option.some.injEq, Obj.cells.injEq] at hg2
      exact hne hg2.2.1
/-- a batch's row is the call's own -/
def OwnB (base : Nat) (w : World) (x : Bt) : Prop := w.ownsRow base 42 3 (.slice x.a x.l.length x.c) x.l.length (x.l.flatMap rqC)
theorem OwnB.below {base : Nat} {w w' : World} {x : Bt} (h : OwnB base w x) (hb : Below w.heap.size w w') : OwnB base w' x := ownsRow_below h hb
theorem OwnB.far {base b2 k2 n2 : Nat} {w w' : World} {x : Bt} {v2 : Value} {xs : List Value} (h : OwnB base w x) (h2 : w.ownsRow b2 24 k2 v2 n2 xs) (hg : w.grownBy w' v2.ownBlock) : OwnB base w' x :=
  World.ownsRow.kept h hg (own_apart h h2 (by decide))
theorem bt_set (ini : List Bt) (x y : Bt) : ((ini ++ [x]).flatMap btC).set (ini.length * 3 + 2) (.slice y.a y.l.length y.c) = (ini ++ [y]).flatMap btC := by
  have hl := flat_len btC 3 btC_len ini
  rw [List.flatMap_append, List.flatMap_append, List.set_append_right _ _ (by omega), hl]
  congr 1
  simp only [List.flatMap_cons, List.flatMap_nil, List.append_nil, btC, Nat.add_sub_cancel_left]
  rfl
theorem bt_get (ini : List Bt) (x : Bt) : ((ini ++ [x]).flatMap btC)[ini.length * 3 + 2]? = some (.slice x.a x.l.length x.c) := by
  rw [flat_get btC 3 btC_len (ini ++ [x]) ini.length (by simp) 2 (by omega)]
  simp [btC]
theorem infoEn : (Tryd.prog.info? 24).map (fun i => (i.zero, i.size, i.bytes)) = some (some (.agg #[.int .i64 0, .int .i64 0, .slice none 0 0]), 3, 40) := by kernel_rfl
theorem batL_ok {l : List Rq} {k b : Int} {x : List (List Rq)} (hok : ¬ (k < 1 ∨ 8 < k ∨ b < 1 ∨ 2000 < b)) (hv : vRqs [] l = 0) (h : bat k b [] l = some x) : batE l k b = 0 ∧ batL l k b = x := by
  have h1 : batE l k b = 0 := by unfold batE; rw [if_neg hok, if_neg (by omega), h]
  exact ⟨h1, by unfold batL; rw [if_neg (by omega), h]⟩
theorem batL_big {l : List Rq} {k b : Int} (hok : ¬ (k < 1 ∨ 8 < k ∨ b < 1 ∨ 2000 < b)) (hv : vRqs [] l = 0) (h : bat k b [] l = none) : batE l k b = 3 ∧ batL l k b = [] := by
  have h1 : batE l k b = 3 := by unfold batE; rw [if_neg hok, if_neg (by omega), h]
  exact ⟨h1, batL_bad (by omega)⟩
theorem RqB.ok {r : Rq} (h : RqB r) : I64 r.client ∧ I64 r.number ∧ r.op.length ≤ 4096 := by
  obtain ⟨h1, h2, h3, h4, h5, h6⟩ := h
  exact ⟨⟨by omega, by omega⟩, ⟨by omega, by omega⟩, by omega⟩
/-- a new batch of one request, laid behind W -/
def btNew (W : World) (r : Rq) : Bt := ⟨some ⟨W.heap.size, 0, none⟩, 1, [r]⟩
theorem push_own {base : Nat} {W w3 : World} {bs : List Bt} {v : Value} {r : Rq} (hbase : base ≤ W.heap.size) (hbs : ∀ x ∈ bs, OwnB base W x) (hown : W.ownsRow base 24 3 v bs.length (bs.flatMap btC))
    (hg : ((W.alloc (.cells #[.int .i64 r.client, .int .i64 r.number, .string ⟨r.op.toArray⟩] 42)).alloc (.cells #[.int .i64 1, .int .i64 0, .slice (some ⟨W.heap.size, 0, none⟩) 1 1] 24)).grownBy w3 v.ownBlock) :
    ∀ x ∈ bs ++ [btNew W r], OwnB base w3 x := by
  have h2 := (hown.alloc (.cells #[.int .i64 r.client, .int .i64 r.number, .string ⟨r.op.toArray⟩] 42)).alloc (.cells #[.int .i64 1, .int .i64 0, .slice (some ⟨W.heap.size, 0, none⟩) 1 1] 24)
  intro x hx
  rcases List.mem_append.1 hx with hx | hx
  · exact OwnB.far (World.ownsRow.alloc (World.ownsRow.alloc (hbs x hx) _) _) h2 hg
  · simp only [List.mem_cons, List.not_mem_nil, or_false] at hx
    subst hx
    refine OwnB.far ?_ h2 hg
    exact (World.ownsRow_lit (base := base) (e := 42) (size := 3) W #[.int .i64 r.client, .int .i64 r.number, .string ⟨r.op.toArray⟩] 1 hbase (by simp [maxLen]) rfl).alloc _
theorem split_last {α : Type} (l : List α) : l = [] ∨ ∃ ini x, l = ini ++ [x] := by
  by_cases h : l = []
  · exact .inl h
  · exact .inr ⟨l.dropLast, l.getLast h, (List.dropLast_concat_getLast h).symm⟩
theorem news_keep {V w3 : World} {g : Nat} {cs : Array Value} {t : TypeId} {fr : Nat × Nat} (h : V.heap[g]? = some (.cells cs t fr)) (hb : Below V.heap.size V w3) : ∀ j u, cs.toList[j]? = some u → w3.cell? ((⟨g, 0, none⟩ : Addr).add j) = some u := by
  intro j u hu
  have hg : g < V.heap.size := by
    rcases Nat.lt_or_ge g V.heap.size with h1 | h1
    · exact h1
    · rw [Array.getElem?_eq_none h1] at h; cases h
  have h2 := World.news_of_block h j u hu
  rw [add_off] at h2 ⊢
  exact (hb.cell (p := ⟨g, 0 + j, none⟩) hg).trans h2
/-- a copy of requests, in memory that lies behind w2 -/
def RetCl (l : List Rq) (w2 W : World) (e : Ending) (w' : World) : Prop := ∃ A c, e = .returned (.slice A l.length c) ∧ w'.ownsRow w2.heap.size 42 3 (.slice A l.length c) l.length (l.flatMap rqC) ∧ Below W.heap.size W w' ∧ Below w2.heap.size w2 w'
theorem fits_len {k b : Int} {l : List Rq} (h : fitsB k b l = true) (hk : k ≤ 8) : l.length ≤ 8 := by
  unfold fitsB at h
  simp only [Bool.and_eq_true, decide_eq_true_eq] at h
  omega
set_option maxRecDepth 100000 in
set_option maxHeartbeats 4000000 in
theorem batches_main (A : Option Addr) (c : Nat) (l : List Rq) (k b : Int) (w : World) (he : Env w) (h : RqIn w A c l) (hn : l.length ≤ 1000) (hok : ¬ (k < 1 ∨ 8 < k ∨ b < 1 ∨ 2000 < b)) (hv : vRqs [] l = 0) :
    Calls Tryd.prog 22 #[.slice A l.length c, .int .i64 k, .int .i64 b] w (RetBat (batE l k b) (batL l k b) w) := by
  have B0 := Lib.hid ((below_new w (.cells #[.int .i64 k] 3)).alloc (by simp) (.cells #[.int .i64 b] 3))
  have hI := h.below B0.out
  have HV := Lib.hid (valid_any A c l _ hI.rd hI.cap hI.big hI.few hI.op)
  rw [hv] at HV
  have HBB : Hid (∀ r ∈ l, RqB r) := Lib.hid (vRqs_mem l [] hv)
  have HSome : Hid (∀ x, bat k b [] l = some x → batE l k b = 0 ∧ batL l k b = x) := Lib.hid (fun x hx => batL_ok hok hv hx)
  have HNone : Hid (bat k b [] l = none → batE l k b = 3 ∧ batL l k b = []) := Lib.hid (fun hx => batL_big hok hv hx)
  have HK : Hid (Cell1 k w.heap.size ((w.alloc (.cells #[.int .i64 k] 3)).alloc (.cells #[.int .i64 b] 3))) := Lib.hid ⟨by simp; omega, by simp⟩
  have HB : Hid (Cell1 b (w.heap.size + 1) ((w.alloc (.cells #[.int .i64 k] 3)).alloc (.cells #[.int .i64 b] 3))) := Lib.hid ⟨by simp, by simp⟩
  have HQ := Lib.hid h
  have HE := Lib.hid he
  have r1 : ¬ k < 1 := fun h => hok (.inl h)
  have r2 : ¬ 8 < k := fun h => hok (.inr (.inl h))
  have r3 : ¬ b < 1 := fun h => hok (.inr (.inr (.inl h)))
  have r4 : ¬ 2000 < b := fun h => hok (.inr (.inr (.inr h)))
  obtain ⟨i0, hi, hz0, hz1, hz2⟩ := info_parts infoR
  have HI := Lib.hid hi
  have HZ0 := Lib.hid hz0
  have HZ1 := Lib.hid hz1
  have HZ2 := Lib.hid hz2
  clear hi hz0 hz1 hz2
  obtain ⟨j0, hi, hz0, hz1, hz2⟩ := info_parts infoEn
  have JI := Lib.hid hi
  have JZ0 := Lib.hid hz0
  have JZ1 := Lib.hid hz1
  have JZ2 := Lib.hid hz2
  clear hi hz0 hz1 hz2 h hI hok hv he
  go_enter Tryd.func22, Tryd.ntmps22
  go_wp2_with fail
  refine HV.out.mono ?_
  rintro e w1 ⟨rfl, b1⟩
  have B1 := Lib.hid (bon B0.out b1)
  have HK1 := Lib.hid (HK.out.below b1)
  have HB1 := Lib.hid (HB.out.below b1)
  have HQ1 := Lib.hid (HQ.out.below B1.out)
  have HE1 := Lib.hid (HE.out.below B1.out)
  clear b1
  go_wp2_with fail
  go_loopw [10, 37] (fun o i wr => ∃ (j : Nat) (bs : List Bt) (A3 : Option Addr) (c3 : Nat), i = .int .i64 j ∧ j ≤ l.length ∧ bs.length ≤ j ∧ o = .slice A3 bs.length c3 ∧ wr.ownsRow w1.heap.size 24 3 (.slice A3 bs.length c3) bs.length (bs.flatMap btC) ∧ (∀ x ∈ bs, OwnB w1.heap.size wr x ∧ x.l.length ≤ 999 ∧ ∀ r ∈ x.l, RqB r) ∧ bat k b [] l = bat k b (bs.map Bt.l) (l.drop j) ∧ Below w1.heap.size w1 wr ∧ w1.heap.size ≤ wr.heap.size) (fun _ i _ => l.length - (intOf i).toNat)
  case atStart => exact ⟨0, [], none, 0, rfl, by omega, by simp, rfl, World.ownsRow_nil _ _ _ _, by simp, rfl, Below.refl _ _, Nat.le_refl _⟩
  case round =>
    obtain ⟨j, bs, A3, c3, rfl, hj, hbj, rfl, hown, hbs, hbat, hb, hge⟩ := hrel
    have HO := Lib.hid hown
    have HBs := Lib.hid hbs
    have HBat := Lib.hid hbat
    have HBl := Lib.hid hb
    clear hown hbs hbat hb
    by_cases hlt : j < l.length
    · have i0' : (0 : Int) ≤ (j : Int) := by omega
      have i1 : (j : Int) < (l.length : Int) := by omega
      obtain ⟨g, o, rfl, hg, hcc⟩ := HQ1.out.rd.at rqC_len (by omega) hlt
      have a0 := hcc wr HBl.out 0 _ rfl
      have a1 := hcc wr HBl.out 1 _ rfl
      have a2 := hcc wr HBl.out 2 _ rfl
      clear hcc
      simp only [Nat.add_zero] at a0
      have hrb := HBB.out l[j] (List.getElem_mem hlt)
      have HRb := Lib.hid hrb
      have HF : Hid (∀ W g', Below w1.heap.size w1 W → W.heap.size = g' → Calls Tryd.prog 42 #[.slice (some ⟨g', 0, none⟩) 1 1, .pointer (some ⟨w.heap.size, 0, none⟩), .pointer (some ⟨w.heap.size + 1, 0, none⟩)] (W.alloc (.cells #[.int .i64 l[j].client, .int .i64 l[j].number, .string ⟨l[j].op.toArray⟩] 42)) fun e w' => e = .returned (.bool (fitsB k b [l[j]])) ∧ Below W.heap.size W w') := Lib.hid (fun W g' hW hg' => by
        subst hg'
        have hW2 : Below w1.heap.size w1 (W.alloc (.cells #[.int .i64 l[j].client, .int .i64 l[j].number, .string ⟨l[j].op.toArray⟩] 42)) := bon hW (below_new W _)
        have h9 := fits_any k b w.heap.size (w.heap.size + 1) (some ⟨W.heap.size, 0, none⟩) 1 [l[j]] _ (HE1.out.below hW2) (HK1.out.below hW2) (HB1.out.below hW2) ⟨rd_new W 3 1 (rqC l[j]) 42 rfl, by simp, by simp, by simp, by intro r hr; simp only [List.mem_cons, List.not_mem_nil, or_false] at hr; subst hr; have := hrb.2.2.2.2.2; omega⟩ (by simp) (by intro r hr; simp only [List.mem_cons, List.not_mem_nil, or_false] at hr; subst hr; exact hrb.ok)
        exact h9.mono fun _ _ ⟨x, y⟩ => ⟨x, bon (below_new W _) y⟩)
      have HLeft := Lib.hid (HBat.out.trans (bat_left k b l j hlt (bs.map Bt.l)))
      have HB2 := Lib.hid (bon HBl.out (below_new wr (.cells #[.int .i64 l[j].client, .int .i64 l[j].number, .string ⟨l[j].op.toArray⟩] 42)))
      have HX2 := Lib.hid (O3.new wr (.int .i64 l[j].client) (.int .i64 l[j].number) (.string ⟨l[j].op.toArray⟩) 42)
      clear hrb
      cases hf1 : fitsB k b [l[j]] with
      | false =>
        have HN : Hid (bat k b [] l = none) := Lib.hid (by rw [HLeft.out, if_pos hf1])
        rw [hf1] at HF
        clear hf1
        go_wp2_with fail
        refine (HF.out _ _ HB2.out (by simp)).mono ?_
        rintro e w2 ⟨rfl, b2⟩
        have B2 := Lib.hid (bon (bon B1.out HB2.out) b2)
        clear b2
        go_wp2_with fail
        go_ret2
        exact ret_bt_none (HNone.out HN.out).1 (HNone.out HN.out).2 B2.out
      | true =>
        have HLeft2 := Lib.hid (HLeft.out.trans (if_neg (by rw [hf1]; decide)))
        rw [hf1] at HF
        clear hf1
        rcases split_last bs with rfl | ⟨ini, x, rfl⟩
        · try simp only [List.length_nil]
          go_wp2_with fail
          refine (HF.out _ _ HB2.out (by simp)).mono ?_
          rintro e w2 ⟨rfl, b2⟩
          have HO2 := Lib.hid (ownsRow_below (HO.out.alloc _) b2)
          have HX3 := Lib.hid (HX2.out.below b2)
          have HB3 := Lib.hid (bon HB2.out b2)
          have hz2 : w1.heap.size ≤ w2.heap.size := Nat.le_trans hge (Nat.le_trans (below_new wr _).size b2.size)
          have HLeft3 : Hid (bat k b [] l = bat k b ([btNew w2 l[j]].map Bt.l) (l.drop (j + 1))) := Lib.hid (by rw [HLeft2.out, if_neg (by simp)]; rfl)
          have HRn : Hid (∀ r ∈ [l[j]], RqB r) := Lib.hid (fun r hr => by simp only [List.mem_cons, List.not_mem_nil, or_false] at hr; subst hr; exact HRb.out)
          clear b2
          obtain ⟨hltx, p0, p1, p2, _, _, _⟩ := HX3.out
          go_wp2_with (at_builtin; refine wpList_append_own _ rfl _ _ 37 rfl w1.heap.size 24 j0 _ 3 40 Tryd.underlying37 JI.out JZ0.out JZ1.out JZ2.out rfl (by decide) _ _ _ rfl ((HO2.out.alloc _).alloc _) ⟨w2.heap.size + 1, 0, none⟩ 1 1 (btC (btNew w2 l[j])) rfl rfl (cell_new _ _ _ _ (by simp)) (by simp [btC, btNew, Value.oneCell']) (by simp [maxLen]) (by simp) (by simp; omega) ?_)
          intro v' w3 hown' hgrow _
          obtain ⟨A4, c4, hv4⟩ := ownsRow_form hown'
          subst hv4
          have HO4 := Lib.hid hown'
          have HG4 := Lib.hid hgrow
          have HP4 := Lib.hid (push_own (r := l[j]) hz2 (by simp) HO2.out hgrow)
          have HB4 := Lib.hid (below_grown (((HB3.out.alloc hz2 _).alloc (by simp; omega) _)) (by simp; omega) hgrow (fun g hg => by simp [Value.ownBlock] at hg; have := (HO2.out.lt g (by simpa [Value.ownBlock] using hg)).1; omega))
          clear hown' hgrow p0 p1 p2
          go_wp2_with fail
          go_roundw
          case rel =>
            refine ⟨j + 1, [btNew w2 l[j]], A4, c4, by go_num, by omega, by simp, by simp, by simpa using HO4.out, fun x hx => ⟨HP4.out x (by simpa using hx), ?_, ?_⟩, HLeft3.out, HB4.out, ?_⟩
            · simp only [List.mem_cons, List.not_mem_nil, or_false] at hx
              subst hx; simp [btNew]
            · simp only [List.mem_cons, List.not_mem_nil, or_false] at hx
              subst hx; exact HRn.out
            · have := HG4.out.size; simp at this; omega
          case measure => simp [intOf]; omega
        · obtain ⟨m, hm⟩ : ∃ m, m = ini.length := ⟨_, rfl⟩
          have hlen : (ini ++ [x]).length = m + 1 := by rw [hm]; simp
          have HM := Lib.hid hm
          clear hm
          have HOm : Hid (wr.ownsRow w1.heap.size 24 3 (.slice A3 (m + 1) c3) (m + 1) ((ini ++ [x]).flatMap btC)) := Lib.hid (by have h9 := HO.out; rw [hlen] at h9; exact h9)
          rw [hlen] at hbj ⊢
          clear hlen
          obtain ⟨og, oc, hov, hog, hogl⟩ := HOm.out.form (by omega)
          simp only [Value.slice.injEq, true_and] at hov
          obtain ⟨rfl, rfl⟩ := hov
          have hx := HBs.out x (by simp)
          have HXl := Lib.hid hx.2.2
          have hx2 := hx.2.1
          have HXo := Lib.hid hx.1
          clear hx
          go_wp2_with fail
          refine (HF.out _ _ HB2.out (by simp)).mono ?_
          rintro e w2 ⟨rfl, b2⟩
          have HO2 := Lib.hid (ownsRow_below (HOm.out.alloc _) b2)
          have HX3 := Lib.hid (HX2.out.below b2)
          have HB3 := Lib.hid (bon HB2.out b2)
          have hz2 : w1.heap.size ≤ w2.heap.size := Nat.le_trans hge (Nat.le_trans (below_new wr _).size b2.size)
          have hogw : og < w2.heap.size := Nat.lt_of_lt_of_le hogl (Nat.le_trans (below_new wr _).size b2.size)
          have HBs2 : Hid (∀ y ∈ ini ++ [x], OwnB w1.heap.size w2 y) := Lib.hid (fun y hy => OwnB.below (World.ownsRow.alloc (HBs.out y hy).1 _) b2)
          clear b2
          obtain ⟨hltx, p0, p1, p2, _, _, _⟩ := HX3.out
          have hxc : w2.cell? ⟨og, m * 3 + 2, none⟩ = some (.slice x.a x.l.length x.c) := by
            rw [HO2.out.cellAt _ (by omega), HM.out]; exact bt_get ini x
          have HKB : Hid (∀ W, Below w2.heap.size w2 W → W.cell? ⟨og, m * 3 + 2, none⟩ = some (.slice x.a x.l.length x.c) ∧ W.cell? ⟨wr.heap.size, 0, none⟩ = some (.int .i64 l[j].client) ∧ W.cell? ⟨wr.heap.size, 1, none⟩ = some (.int .i64 l[j].number) ∧ W.cell? ⟨wr.heap.size, 2, none⟩ = some (.string ⟨l[j].op.toArray⟩)) :=
            Lib.hid (fun W hW => ⟨(hW.cell (p := ⟨og, m * 3 + 2, none⟩) hogw).trans hxc, (hW.cell (p := ⟨wr.heap.size, 0, none⟩) hltx).trans p0, (hW.cell (p := ⟨wr.heap.size, 1, none⟩) hltx).trans p1, (hW.cell (p := ⟨wr.heap.size, 2, none⟩) hltx).trans p2⟩)
          have HCl : Hid (∀ W, Below w2.heap.size w2 W → Calls Tryd.prog 23 #[.slice x.a x.l.length x.c] W (RetCl x.l w2 W)) := Lib.hid (fun W hW => by
            have hq : RqIn W x.a x.c x.l := own_in (OwnB.below (HBs2.out x (by simp)) hW) (by omega) (fun r hr => by have := (HXl.out r hr).2.2.2.2.2; omega)
            refine (cloneRq_any x.a x.c x.l W hq (by omega)).mono ?_
            rintro e w' ⟨A, c, rfl, h1, h2⟩
            exact ⟨A, c, rfl, ownsRow_base h1 hW.size, h2, bon hW h2⟩)
          have H0 : Below w2.heap.size w2 w2 := Below.refl _ _
          have im : (0 : Int) ≤ (m : Int) := by omega
          have im2 : (m : Int) < (m : Int) + 1 := by omega
          have hmx : x.l.length + 1 ≤ maxLen := by simp [maxLen]; omega
          have hby : (x.l.length + 1) * 32 ≤ 140737488355328 := by omega
          go_wp2_with fail
          have hw1 : IntKind.i64.wrap (m : Int) = (m : Int) := IntWalk.i64_in _ (by omega)
          have hw2 : IntKind.i64.wrap ((m : Int) + 1 - 1) = (m : Int) := by rw [Int.add_sub_cancel]; exact hw1
          go_region_held3 (fun W => W.cell? ⟨og, m * 3 + 2, none⟩ = some (.slice x.a x.l.length x.c) ∧ W.cell? ⟨wr.heap.size, 0, none⟩ = some (.int .i64 l[j].client) ∧ W.cell? ⟨wr.heap.size, 1, none⟩ = some (.int .i64 l[j].number) ∧ W.cell? ⟨wr.heap.size, 2, none⟩ = some (.string ⟨l[j].op.toArray⟩))
            (first | exact HKB.out _ ‹Below w2.heap.size w2 _› | exact HKB.out _ (Below.drew ‹Below w2.heap.size w2 _›) | exact HKB.out _ (Below.alloc ‹Below w2.heap.size w2 _› (Below.size ‹Below w2.heap.size w2 _›) _) | exact HKB.out _ (Below.drew (Below.alloc ‹Below w2.heap.size w2 _› (Below.size ‹Below w2.heap.size w2 _›) _)))
            (first
              | (go_at_call 23; refine (HCl.out _ (by first | assumption | exact Below.drew ‹Below w2.heap.size w2 _› | exact Below.alloc ‹Below w2.heap.size w2 _› (Below.size ‹Below w2.heap.size w2 _›) _ | exact Below.drew (Below.alloc ‹Below w2.heap.size w2 _› (Below.size ‹Below w2.heap.size w2 _›) _))).mono ?_; rintro e w3 ⟨A5, c5, rfl, oc3, b3, b4⟩)
              | (refine step_append_lies _ (by rfl) _ _ _ (by rfl) w2.heap.size 42 i0 _ 3 32 Tryd.underlying22 HI.out HZ0.out HZ1.out HZ2.out rfl (by decide) _ _ _ (by rfl) ((oc3.alloc _).drew) _ 1 1 [.int .i64 l[j].client, .int .i64 l[j].number, .string ⟨l[j].op.toArray⟩] (by rfl) (by rfl) (World.news_of_block (cs := #[.int .i64 l[j].client, .int .i64 l[j].number, .string ⟨l[j].op.toArray⟩]) (t := 42) (fr := (0, 0)) (heap_alloc_new _ _)) (by simp [Value.oneCell']) Nat.one_pos hmx hby (Nat.le_trans b4.size (below_new w3 _).size) _ rfl ?_; intro gg cap w4 hown1 hgrow hat hlt4; have hb4 : Below w2.heap.size w2 w4 := (by first | exact below_grown (b4.alloc b4.size _) (Nat.le_trans b4.size (below_new w3 _).size) hgrow (fun g hg => (oc3.lt g hg).1) | exact below_grown ((b4.alloc b4.size _).drew) (Nat.le_trans b4.size (below_new w3 _).size) hgrow (fun g hg => (oc3.lt g hg).1)))
              | (refine step_append_lies _ (by rfl) _ _ _ (by rfl) w2.heap.size 42 i0 _ 3 32 Tryd.underlying22 HI.out HZ0.out HZ1.out HZ2.out rfl (by decide) _ _ _ (by rfl) oc3 ⟨w2.heap.size, 0, none⟩ 1 1 [.int .i64 l[j].client, .int .i64 l[j].number, .string ⟨l[j].op.toArray⟩] (by rfl) (by rfl) (news_keep (V := (w2.alloc (.cells #[.int .i64 l[j].client, .int .i64 l[j].number, .string ⟨l[j].op.toArray⟩] 42)).drew) (cs := #[.int .i64 l[j].client, .int .i64 l[j].number, .string ⟨l[j].op.toArray⟩]) (t := 42) (fr := (0, 0)) (heap_alloc_new w2 _) b3) (by simp [Value.oneCell']) Nat.one_pos hmx hby b4.size _ rfl ?_; intro gg cap w4 hown1 hgrow hat hlt4; have hb4 : Below w2.heap.size w2 w4 := (by first | exact below_grown b4 b4.size hgrow (fun g hg => (oc3.lt g hg).1) | exact below_grown b4.drew b4.size hgrow (fun g hg => (oc3.lt g hg).1))))
          all_goals
            have HM4 := Lib.hid hown1
            have HB4 := Lib.hid hb4
            clear hown1 hgrow hat hb4 hw1 hw2 b3 b4 oc3 p0 p1 p2 hxc hmx hby
            have HO4 := Lib.hid (ownsRow_below HO2.out HB4.out)
            have HX4 := Lib.hid (HX3.out.below HB4.out)
            have HBs4 : Hid (∀ y ∈ ini ++ [x], OwnB w1.heap.size w4 y) := Lib.hid (fun y hy => OwnB.below (HBs2.out y hy) HB4.out)
            have HB5 := Lib.hid (bon HB3.out HB4.out)
            have hz4 := HB4.out.size
            have hlm : (x.l ++ [l[j]]).length = x.l.length + 1 := by simp
            have HMo : Hid (w4.ownsRow w2.heap.size 42 3 (.slice (some ⟨gg, 0, none⟩) (x.l ++ [l[j]]).length cap) (x.l ++ [l[j]]).length ((x.l ++ [l[j]]).flatMap rqC)) := Lib.hid (by
              rw [hlm]; have h9 := HM4.out; simpa [rqC] using h9)
            have hall : ∀ r ∈ x.l ++ [l[j]], RqB r := fun r hr => by
              rcases List.mem_append.1 hr with h | h
              · exact HXl.out r h
              · simp only [List.mem_cons, List.not_mem_nil, or_false] at h
                subst h; exact HRb.out
            have HAll := Lib.hid hall
            have HF2 : Hid (Calls Tryd.prog 42 #[.slice (some ⟨gg, 0, none⟩) (x.l.length + 1) cap, .pointer (some ⟨w.heap.size, 0, none⟩), .pointer (some ⟨w.heap.size + 1, 0, none⟩)] w4 (RetBool (fitsB k b (x.l ++ [l[j]])) w4)) := Lib.hid (by
              have h9 := fits_any k b w.heap.size (w.heap.size + 1) (some ⟨gg, 0, none⟩) cap (x.l ++ [l[j]]) w4 (HE1.out.below HB5.out) (HK1.out.below HB5.out) (HB1.out.below HB5.out) (own_in HMo.out (by omega) (fun r hr => by have := (hall r hr).2.2.2.2.2; omega)) (by omega) (fun r hr => (hall r hr).ok)
              rw [hlm] at h9
              exact h9)
            clear hall hlm
            have hmapn : (ini ++ [x]).map Bt.l ≠ [] := by simp
            have hmapl : ((ini ++ [x]).map Bt.l).getLastD [] = x.l := by simp
            have hmapd : ((ini ++ [x]).map Bt.l).dropLast = ini.map Bt.l := by simp
            have HLeft4 : Hid (bat k b [] l = if fitsB k b (x.l ++ [l[j]]) = true then bat k b (ini.map Bt.l ++ [x.l ++ [l[j]]]) (l.drop (j + 1)) else bat k b ((ini ++ [x]).map Bt.l ++ [[l[j]]]) (l.drop (j + 1))) := Lib.hid (by
              rw [HLeft2.out, hmapl, hmapd]
              by_cases hf : fitsB k b (x.l ++ [l[j]]) = true
              · rw [if_pos hf, if_pos ⟨hmapn, hf⟩]
              · rw [if_neg hf, if_neg (fun h => hf h.2)])
            clear hmapn hmapl hmapd
            cases hf2 : fitsB k b (x.l ++ [l[j]]) with
            | true =>
              have HLeft5 : Hid (bat k b [] l = bat k b ((ini ++ [(⟨some ⟨gg, 0, none⟩, cap, x.l ++ [l[j]]⟩ : Bt)]).map Bt.l) (l.drop (j + 1))) := Lib.hid (by rw [HLeft4.out, if_pos hf2]; simp)
              have hl8 := fits_len hf2 r2
              rw [hf2] at HF2
              clear hf2
              go_wp2_with fail
              refine HF2.out.mono ?_
              rintro e w5 ⟨rfl, b5⟩
              have HO5 := Lib.hid (ownsRow_below HO4.out b5)
              have HBs5 : Hid (∀ y ∈ ini ++ [x], OwnB w1.heap.size w5 y) := Lib.hid (fun y hy => OwnB.below (HBs4.out y hy) b5)
              have HM5 := Lib.hid (ownsRow_base (ownsRow_below HMo.out b5) hz2)
              have HB6 := Lib.hid (bon HB5.out b5)
              have hz5 := b5.size
              have hst := HO5.out.stored (m * 3 + 2) (.slice (some ⟨gg, 0, none⟩) (x.l.length + 1) cap)
              have HSt := Lib.hid hst.1
              have HSg := Lib.hid hst.2
              have hcell : w5.cell? ⟨og, m * 3 + 2, none⟩ = some (.slice x.a x.l.length x.c) := by
                rw [HO5.out.cellAt _ (by omega), HM.out]; exact bt_get ini x
              have hfroz : w5.frozen? ⟨og, m * 3 + 2, none⟩ = false := HO5.out.frozenAt _
              have HBs6 : Hid (∀ y ∈ ini ++ [(⟨some ⟨gg, 0, none⟩, cap, x.l ++ [l[j]]⟩ : Bt)], OwnB w1.heap.size (w5.setCell ⟨og, m * 3 + 2, none⟩ (.slice (some ⟨gg, 0, none⟩) (x.l.length + 1) cap)) y) := Lib.hid (fun y hy => by
                rcases List.mem_append.1 hy with h | h
                · exact OwnB.far (HBs5.out y (by simp [h])) HO5.out HSg.out
                · simp only [List.mem_cons, List.not_mem_nil, or_false] at h
                  subst h
                  exact OwnB.far (x := ⟨some ⟨gg, 0, none⟩, cap, x.l ++ [l[j]]⟩) HM5.out HO5.out HSg.out)
              have HO6 : Hid ((w5.setCell ⟨og, m * 3 + 2, none⟩ (.slice (some ⟨gg, 0, none⟩) (x.l.length + 1) cap)).ownsRow w1.heap.size 24 3 (.slice (some ⟨og, 0, none⟩) (m + 1) c3) (m + 1) ((ini ++ [(⟨some ⟨gg, 0, none⟩, cap, x.l ++ [l[j]]⟩ : Bt)]).flatMap btC)) := Lib.hid (by
                have h9 := HSt.out
                have h10 := bt_set ini x ⟨some ⟨gg, 0, none⟩, cap, x.l ++ [l[j]]⟩
                simp only [List.length_append, List.length_cons, List.length_nil, Nat.zero_add] at h10
                rw [HM.out] at h9 ⊢
                rw [h10] at h9
                exact h9)
              have HB7 := Lib.hid (HB6.out.setCell (p := ⟨og, m * 3 + 2, none⟩) (by show w1.heap.size ≤ og; omega) (.slice (some ⟨gg, 0, none⟩) (x.l.length + 1) cap))
              clear b5 hst
              go_wp2_with fail
              go_roundw
              case rel =>
                have hlb : (ini ++ [(⟨some ⟨gg, 0, none⟩, cap, x.l ++ [l[j]]⟩ : Bt)]).length = m + 1 := by rw [HM.out]; simp
                refine ⟨j + 1, ini ++ [(⟨some ⟨gg, 0, none⟩, cap, x.l ++ [l[j]]⟩ : Bt)], some ⟨og, 0, none⟩, c3, by go_num, by omega, by rw [hlb]; omega, by rw [hlb], by rw [hlb]; exact HO6.out, fun y hy => ⟨HBs6.out y hy, ?_, ?_⟩, HLeft5.out, HB7.out, by simp; omega⟩
                · rcases List.mem_append.1 hy with h | h
                  · exact (HBs.out y (by simp [h])).2.1
                  · simp only [List.mem_cons, List.not_mem_nil, or_false] at h
                    subst h
                    show (x.l ++ [l[j]]).length ≤ 999
                    omega
                · rcases List.mem_append.1 hy with h | h
                  · exact (HBs.out y (by simp [h])).2.2
                  · simp only [List.mem_cons, List.not_mem_nil, or_false] at h
                    subst h
                    exact HAll.out
              case measure => simp [intOf]; omega
            | false =>
              have HLeft5 : Hid (∀ W, bat k b [] l = bat k b ((ini ++ [x] ++ [btNew W l[j]]).map Bt.l) (l.drop (j + 1))) := Lib.hid (fun W => by rw [HLeft4.out, if_neg (by rw [hf2]; decide)]; simp [btNew])
              rw [hf2] at HF2
              clear hf2
              go_wp2_with fail
              refine HF2.out.mono ?_
              rintro e w5 ⟨rfl, b5⟩
              have HO5 := Lib.hid (ownsRow_below HO4.out b5)
              have HX5 := Lib.hid (HX4.out.below b5)
              have HBs5 : Hid (∀ y ∈ ini ++ [x], OwnB w1.heap.size w5 y) := Lib.hid (fun y hy => OwnB.below (HBs4.out y hy) b5)
              have HB6 := Lib.hid (bon HB5.out b5)
              have hz5 := b5.size
              clear b5
              obtain ⟨hlty, p0, p1, p2, _, _, _⟩ := HX5.out
              have hlix : (ini ++ [x]).length = m + 1 := by rw [HM.out]; simp
              have HLi := Lib.hid hlix
              clear hlix
              go_wp2_with (at_builtin; refine wpList_append_own _ rfl _ _ 37 rfl w1.heap.size 24 j0 _ 3 40 Tryd.underlying37 JI.out JZ0.out JZ1.out JZ2.out rfl (by decide) _ _ _ rfl ((HO5.out.alloc _).alloc _) ⟨w5.heap.size + 1, 0, none⟩ 1 1 (btC (btNew w5 l[j])) rfl rfl (cell_new _ _ _ _ (by simp)) (by simp [btC, btNew, Value.oneCell']) (by simp [maxLen]; omega) (by omega) (by simp; omega) ?_)
              intro v' w6 hown' hgrow _
              obtain ⟨A6, c6, hv6⟩ := ownsRow_form hown'
              subst hv6
              have HO6 := Lib.hid hown'
              have HG6 := Lib.hid hgrow
              have HP6 := Lib.hid (push_own (r := l[j]) (bs := ini ++ [x]) (v := .slice (some ⟨og, 0, none⟩) (m + 1) c3) (by omega) HBs5.out (by rw [HLi.out]; exact HO5.out) hgrow)
              have HB7 := Lib.hid (below_grown (((HB6.out.alloc (by omega) _).alloc (by simp; omega) _)) (by simp; omega) hgrow (fun g hg => by simp [Value.ownBlock] at hg; omega))
              clear hown' hgrow p0 p1 p2
              go_wp2_with fail
              go_roundw
              case rel =>
                have hlb : (ini ++ [x] ++ [btNew w5 l[j]]).length = m + 1 + 1 := by rw [List.length_append, HLi.out]; rfl
                refine ⟨j + 1, ini ++ [x] ++ [btNew w5 l[j]], A6, c6, by go_num, by omega, by rw [hlb]; omega, by rw [hlb], by rw [hlb, List.flatMap_append]; have h9 := HO6.out; simpa using h9, fun y hy => ⟨HP6.out y hy, ?_, ?_⟩, HLeft5.out w5, HB7.out, ?_⟩
                · rcases List.mem_append.1 hy with h | h
                  · exact (HBs.out y h).2.1
                  · simp only [List.mem_cons, List.not_mem_nil, or_false] at h
                    subst h; simp [btNew]
                · rcases List.mem_append.1 hy with h | h
                  · exact (HBs.out y h).2.2
                  · simp only [List.mem_cons, List.not_mem_nil, or_false] at h
                    subst h
                    intro r hr
                    simp only [btNew, List.mem_cons, List.not_mem_nil, or_false] at hr
                    subst hr; exact HRb.out
                · have := HG6.out.size; simp at this; omega
              case measure => simp [intOf]; omega
    · have HLeft := Lib.hid (HBat.out.trans (by rw [List.drop_eq_nil_of_le (by omega), bat]))
      have HS := Lib.hid (HSome.out _ HLeft.out)
      go_wp2_with fail
      go_ret2
      rw [HS.out.1, HS.out.2]
      exact ret_bt rfl rfl rfl (Rd.own HO.out) (fun x hx => own_in (HBs.out x hx).1 (by have := (HBs.out x hx).2.1; omega) (fun r hr => by have := ((HBs.out x hx).2.2 r hr).2.2.2.2.2; omega)) (own_cap HO.out) (bon B1.out HBl.out)
end Go.Proofs.YthmoplkleopahaaDoor
