/- The contracts of build.servers, build.threshold (at servers), build.Threshold. -/
import Derived.Test.YtlklmpcfhnbhgaaDoorCpC
namespace Go.Proofs.YtlklmpcfhnbhgaaDoor
open Go.RowKit

theorem own_apart {w : World} {base base' e e' k k' n n' : Nat} {v v' : Value} {xs xs' : List Value} (h : w.ownsRow base e k v n xs) (h' : w.ownsRow base' e' k' v' n' xs') (hne : e ≠ e') (g : Nat) (hg : v.ownBlock = some g) : v'.ownBlock ≠ some g := by
  intro hg'
  rcases h.2 with ⟨rfl, _⟩ | ⟨q, cap, cur, rfl, _, hq, _⟩
  · simp [Value.ownBlock] at hg
  · rcases h'.2 with ⟨rfl, _⟩ | ⟨q', cap', cur', rfl, _, hq', _⟩
    · simp [Value.ownBlock] at hg'
    · simp only [Value.ownBlock, Option.some.injEq] at hg hg'
      subst hg
      subst hg'
      rw [hq] at hq'
      simp only [Option.some.injEq, Obj.cells.injEq] at hq'
      exact hne hq'.2.1
theorem own_kept {w w' : World} {base e k n : Nat} {v : Value} {xs : List Value} {row : Option Nat} (h : w.ownsRow base e k v n xs) (hg : w.grownBy w' row) (hne : ∀ g, v.ownBlock = some g → row ≠ some g) : w'.ownsRow base e k v n xs :=
  h.kept hg (by
    cases hv : v.ownBlock with
    | none => exact .inl rfl
    | some g => exact .inr (fun e => hne g hv e.symm))
set_option maxRecDepth 100000 in
set_option maxHeartbeats 2000000 in
theorem servers_any (A : Option Addr) (c : Nat) (l : List Nat) (w : World) (hr : Rd w 1 A l.length (l.flatMap nat1)) (hn : l.length ≤ 1000) : Calls Tryd.prog 10 #[.slice A l.length c] w (RetLfs l w) := by
  have HR := Lib.hid hr
  clear hr
  obtain ⟨i0, hi, hz0, hz1, hz2⟩ := info_parts infoX
  have HI := Lib.hid hi
  have HZ0 := Lib.hid hz0
  have HZ1 := Lib.hid hz1
  have HZ2 := Lib.hid hz2
  clear hi hz0 hz1 hz2
  go_enter Tryd.func10, Tryd.ntmps10
  go_wp2_with fail
  go_loopw [3, 8] (fun o i wr => ∃ (j : Nat) (q : Value) (xs : List Ex), i = .int .i64 j ∧ q = o ∧ j ≤ l.length ∧ xs.length = j ∧ (∀ i (h : i < xs.length) (h' : i < l.length), isLf l[i] xs[i]) ∧ Col 25 2 exC Ex.ok w.heap.size w.heap.size w q xs wr) (fun _ i _ => l.length - (intOf i).toNat)
  case atStart => exact ⟨0, _, [], rfl, rfl, Nat.zero_le _, rfl, fun i h => by simp at h, Col.start _ _ _ _ _ _ w w (Below.refl _ _) ⟨Nat.le_refl _, Nat.le_refl _⟩⟩
  case round =>
    obtain ⟨j, o, xs, rfl, rfl, hj, hx, hlf, hcol⟩ := hrel
    have HX := Lib.hid hx
    have HLf := Lib.hid hlf
    have HC := Lib.hid hcol
    clear hx hlf hcol
    by_cases hlt : j < l.length
    · have i0' : (0 : Int) ≤ (j : Int) := by omega
      have i1 : (j : Int) < (l.length : Int) := by omega
      obtain ⟨b, off, hA, hb, hc⟩ := HR.out.at nat1_len (by omega) hlt
      subst hA
      have a0 : wr.cell? ⟨b, off + j, none⟩ = some (.int .i64 (l[j] : Int)) := by simpa using hc wr HC.out.low 0 _ rfl
      clear hc
      go_wp2_with fail
      refine (server_any l[j] wr).mono ?_
      rintro e w2 ⟨x, rfl, hlx, hnx, hbx⟩
      have HLx := Lib.hid hlx
      have HNx := Lib.hid hnx
      have HBx := Lib.hid hbx
      clear hlx hnx hbx
      have HO := Lib.hid (HC.out.below HBx.out).own
      have hz := HC.out.base.2
      have hz2 := HBx.out.size
      have hxl : xs.length ≤ 1000 := by have := HX.out; omega
      go_wp2_with (at_builtin; refine wpList_append_own_at _ rfl _ _ 30 rfl w.heap.size 25 i0 _ 2 32 Tryd.underlying30 HI.out HZ0.out HZ1.out HZ2.out rfl (by decide) _ _ _ rfl (HO.out.alloc _) ⟨w2.heap.size, 0, none⟩ 1 1 [.slice x.nodes.a x.nodes.l.length x.nodes.c, .int .i64 (x.root : Int)] rfl rfl (cell_new _ _ _ _ rfl) (by simp [Value.oneCell']) (by simp [maxLen]; omega) (by omega) (by simp; omega) ?_)
      intro v' w4 hown' hgrow _ hat
      have HN : Hid (Col 25 2 exC Ex.ok w.heap.size w.heap.size w v' (xs ++ [x]) w4) := Lib.hid (HC.out.step HBx.out (HC.out.new HNx.out (by omega)) (below_new w2 _) hown' hgrow (by simpa using hat))
      have HX2 : Hid ((xs ++ [x]).length = j + 1) := Lib.hid (by rw [List.length_append, HX.out]; rfl)
      have HLf2 : Hid (∀ i (h : i < (xs ++ [x]).length) (h' : i < l.length), isLf l[i] (xs ++ [x])[i]) := Lib.hid (fun i h h' => by
        rcases Nat.lt_or_ge i xs.length with h1 | h1
        · rw [List.getElem_append_left h1]; exact HLf.out i h1 h'
        · have h2 : i = j := by have := HX.out; rw [HX2.out] at h; omega
          subst h2
          rw [List.getElem_append_right h1]
          simp only [HX.out, Nat.sub_self, List.getElem_cons_zero]
          exact HLx.out)
      clear hown' hgrow hat
      go_wp2_with fail
      go_roundw
      case rel => exact ⟨j + 1, _, _, by go_num, rfl, by omega, HX2.out, HLf2.out, HN.out⟩
      case measure => simp [intOf]; omega
    · obtain rfl : j = l.length := by omega
      have hown := HC.out.own
      obtain ⟨a, c', rfl⟩ := ownsRow_form hown
      rw [HX.out] at hown
      clear hown
      have HXr := Lib.hid HX.out.symm
      go_wp2_with fail
      go_ret
      refine ⟨⟨a, c', xs⟩, rfl, HX.out, HLf.out, HC.out.done rfl (Nat.le_refl _), HC.out.low⟩
def topN (need : Nat) (B : Option Addr) (d n : Nat) : Nd := ⟨2, 0, need, ⟨B, d, List.range n⟩⟩
/-- the state of threshold's loops -/
structure Th (w : World) (need : Nat) (ls : List Nat) (jn jk : Nat) (A : Option Addr) (c : Nat) (B : Option Addr) (d : Nat) (wr : World) : Prop where
  v6 : Vr wr w.heap.size [.slice none 0 0, .int .i64 0]
  v7 : Vr wr (w.heap.size + 1) [.slice A jn c, .int .i64 0]
  v8 : Vr wr (w.heap.size + 1 + 1) [.int .i64 2, .int .i64 0, .int .i64 (need : Int), .slice none 0 0, .slice B jk d]
  oA : wr.ownsRow (w.heap.size + 3) 41 5 (.slice A jn c) jn (((ls.take jn).map lfN).flatMap ndC)
  oB : wr.ownsRow (w.heap.size + 3) 3 1 (.slice B jk d) jk ((List.range jk).flatMap nat1)
  low : Below w.heap.size w wr
  sz : w.heap.size + 3 ≤ wr.heap.size
theorem Th.below {w : World} {need : Nat} {ls : List Nat} {jn jk : Nat} {A : Option Addr} {c : Nat} {B : Option Addr} {d : Nat} {wr w2 : World} (h : Th w need ls jn jk A c B d wr) (hb : Below wr.heap.size wr w2) : Th w need ls jn jk A c B d w2 :=
  ⟨h.v6.below hb, h.v7.below hb, h.v8.below hb, ownsRow_below h.oA hb, ownsRow_below h.oB hb, bon h.low hb, Nat.le_trans h.sz hb.size⟩
theorem own_far {w : World} {base e k n : Nat} {v : Value} {xs : List Value} (h : w.ownsRow base e k v n xs) (p : Addr) (u : Value) (hp : p.block < base) : (w.setCell p u).ownsRow base e k v n xs :=
  own_kept h (grown_set w p u) (fun g hg e => by have := (h.lt g hg).1; simp only [Option.some.injEq] at e; omega)
theorem Th.node {w : World} {need : Nat} {ls : List Nat} {jn jk : Nat} {A : Option Addr} {c : Nat} {B : Option Addr} {d : Nat} {wr w3 w4 : World} {A' : Option Addr} {c' s : Nat} (h : Th w need ls jn jk A c B d wr) (hb : Below wr.heap.size wr w3) (hlt : jn < ls.length) (hs : s = ls[jn])
    (hown : w4.ownsRow (w.heap.size + 3) 41 5 (.slice A' (jn + 1) c') (jn + 1) (((ls.take jn).map lfN).flatMap ndC ++ ndC (lfN s))) (hgr : w3.grownBy w4 (Value.slice A jn c).ownBlock) :
    Th w need ls (jn + 1) jk A' c' B d (w4.setCell ⟨w.heap.size + 1, 0, none⟩ (.slice A' (jn + 1) c')) := by
  have h3 := h.below hb
  have far : ∀ q, q < w.heap.size + 3 → (Value.slice A jn c).ownBlock ≠ some q := fun q hq e => by have := (h3.oA.lt q e).1; omega
  have hz := hgr.size
  have z3 := h3.sz
  refine ⟨((h3.v6.grown hgr (far _ (by omega))).grown (grown_set _ _ _) (by simp)), ((h3.v7.grown hgr (far _ (by omega))).set 0 _).eq rfl, ((h3.v8.grown hgr (far _ (by omega))).grown (grown_set _ _ _) (by simp)), ?_, ?_, ?_, by simpa using Nat.le_trans z3 hz⟩
  · have e : ((ls.take (jn + 1)).map lfN).flatMap ndC = ((ls.take jn).map lfN).flatMap ndC ++ ndC (lfN s) := by
      rw [List.take_succ_eq_append_getElem hlt, ← hs]; simp
    rw [e]
    exact own_far hown _ _ (by simp)
  · exact own_far (own_kept h3.oB hgr (fun g hg => own_apart h3.oB h3.oA (by decide) g hg)) _ _ (by simp)
  · exact (below_grown h3.low h3.low.size hgr (fun g hg => by have := (h3.oA.lt g hg).1; omega)).setCell (by simp) _
theorem Th.kid {w : World} {need : Nat} {ls : List Nat} {jn jk : Nat} {A : Option Addr} {c : Nat} {B : Option Addr} {d : Nat} {wr w3 w4 : World} {B' : Option Addr} {d' : Nat} (h : Th w need ls jn jk A c B d wr) (hb : Below wr.heap.size wr w3)
    (hown : w4.ownsRow (w.heap.size + 3) 3 1 (.slice B' (jk + 1) d') (jk + 1) ((List.range jk).flatMap nat1 ++ [.int .i64 (jk : Int)])) (hgr : w3.grownBy w4 (Value.slice B jk d).ownBlock) :
    Th w need ls jn (jk + 1) A c B' d' (w4.setCell ⟨w.heap.size + 1 + 1, 4, none⟩ (.slice B' (jk + 1) d')) := by
  have h3 := h.below hb
  have far : ∀ q, q < w.heap.size + 3 → (Value.slice B jk d).ownBlock ≠ some q := fun q hq e => by have := (h3.oB.lt q e).1; omega
  have hz := hgr.size
  have z3 := h3.sz
  refine ⟨((h3.v6.grown hgr (far _ (by omega))).grown (grown_set _ _ _) (by simp <;> omega)), ((h3.v7.grown hgr (far _ (by omega))).grown (grown_set _ _ _) (by simp <;> omega)), ((h3.v8.grown hgr (far _ (by omega))).set 4 _).eq rfl, ?_, ?_, ?_, by simpa using Nat.le_trans z3 hz⟩
  · exact own_far (own_kept h3.oA hgr (fun g hg => own_apart h3.oA h3.oB (by decide) g hg)) _ _ (by show w.heap.size + 1 + 1 < w.heap.size + 3; omega)
  · have e : (List.range (jk + 1)).flatMap nat1 = (List.range jk).flatMap nat1 ++ [.int .i64 (jk : Int)] := by
      rw [List.range_succ, List.flatMap_append]; rfl
    rw [e]
    exact own_far hown _ _ (by show w.heap.size + 1 + 1 < w.heap.size + 3; omega)
  · exact (below_grown h3.low h3.low.size hgr (fun g hg => by have := (h3.oB.lt g hg).1; omega)).setCell (by show w.heap.size ≤ w.heap.size + 1 + 1; omega) _
set_option maxRecDepth 100000 in
set_option maxHeartbeats 4000000 in
theorem threshold_any (need : Nat) (xs : Sl Ex) (ls : List Nat) (w : World) (hl : xs.l.length = ls.length) (hlf : ∀ j (h : j < xs.l.length) (h' : j < ls.length), isLf ls[j] xs.l[j]) (hr : Rd w 2 xs.a xs.l.length (xs.l.flatMap exC)) (hok : ∀ y ∈ xs.l, y.ok w) (hn : ls.length ≤ 1000) :
    Calls Tryd.prog 9 #[.int .i64 (need : Int), .slice xs.a xs.l.length xs.c, .slice none 0 0] w (RetEx (th need ls, ls.length) w) := by
  have HR := Lib.hid hr
  have HLf := Lib.hid hlf
  have HOk := Lib.hid hok
  have HLen := Lib.hid hl
  obtain ⟨iN, hiN, hzN0, hzN1, hzN2⟩ := info_parts infoN
  have HIN := Lib.hid hiN
  have HZN0 := Lib.hid hzN0
  have HZN1 := Lib.hid hzN1
  have HZN2 := Lib.hid hzN2
  obtain ⟨iI, hiI, hzI0, hzI1, hzI2⟩ := info_parts infoI
  have HII := Lib.hid hiI
  have HZI0 := Lib.hid hzI0
  have HZI1 := Lib.hid hzI1
  have HZI2 := Lib.hid hzI2
  have hn' : xs.l.length ≤ 1000 := by omega
  clear hiN hzN0 hzN1 hzN2 hiI hzI0 hzI1 hzI2 hr hlf hok hl hn
  have HT0 : Hid (Th w need ls 0 0 none 0 none 0 (((w.alloc (.cells #[.slice none 0 0, .int .i64 0] 25)).alloc (.cells #[.slice none 0 0, .int .i64 0] 25)).alloc (.cells #[.int .i64 2, .int .i64 0, .int .i64 (need : Int), .slice none 0 0, .slice none 0 0] 41))) := Lib.hid (by
    have b1 := below_new w (.cells #[.slice none 0 0, .int .i64 0] 25)
    have b2 := below_new (w.alloc (.cells #[.slice none 0 0, .int .i64 0] 25)) (.cells #[.slice none 0 0, .int .i64 0] 25)
    have b3 := below_new ((w.alloc (.cells #[.slice none 0 0, .int .i64 0] 25)).alloc (.cells #[.slice none 0 0, .int .i64 0] 25)) (.cells #[.int .i64 2, .int .i64 0, .int .i64 (need : Int), .slice none 0 0, .slice none 0 0] 41)
    refine ⟨((Vr.new w _ _).below b2).below b3, ?_, ?_, World.ownsRow_nil _ _ _ _, World.ownsRow_nil _ _ _ _, bon (bon b1 b2) b3, by simp⟩
    · have := (Vr.new (w.alloc (.cells #[.slice none 0 0, .int .i64 0] 25)) [.slice none 0 0, .int .i64 0] 25).below b3
      rwa [World.size_alloc] at this
    · have := Vr.new ((w.alloc (.cells #[.slice none 0 0, .int .i64 0] 25)).alloc (.cells #[.slice none 0 0, .int .i64 0] 25)) [.int .i64 2, .int .i64 0, .int .i64 (need : Int), .slice none 0 0, .slice none 0 0] 41
      rwa [World.size_alloc, World.size_alloc] at this)
  go_enter Tryd.func9, Tryd.ntmps9
  go_wp2_with fail
  refine (cloneNil_any _).mono ?_
  rintro e w2 ⟨rfl, rfl⟩
  go_wp2_with fail
  go_loopw [21] (fun i wr => ∃ (j : Nat) (A : Option Addr) (c : Nat) (B : Option Addr) (d : Nat), i = .int .i64 j ∧ j ≤ xs.l.length ∧ Th w need ls j j A c B d wr) (fun i _ => xs.l.length - (intOf i).toNat)
  case atStart => exact ⟨0, none, 0, none, 0, rfl, Nat.zero_le _, HT0.out⟩
  case round =>
    obtain ⟨j, A, c, B, d, rfl, hj, hth⟩ := hrel
    have HT := Lib.hid hth
    clear hth
    by_cases hlt' : j < xs.l.length
    · have hlt : j < ls.length := by have := HLen.out; omega
      have i0' : (0 : Int) ≤ (j : Int) := by omega
      have i1 : (j : Int) < (xs.l.length : Int) := by omega
      obtain ⟨b, off, hA, hb, hc⟩ := HR.out.at exC_len (by omega) hlt'
      have HA := Lib.hid hA
      have hrun : ∀ w', Sem.run Tryd.prog (Instr.indexAt 30 (.slice xs.a xs.l.length xs.c) (.int .i64 j)) w' = .ok (Value.pointer (some ⟨b, off + j * 2, none⟩)) w' := fun w' => by
        rw [HA.out]; go_simp
      have hlx := HLf.out j hlt' hlt
      have hxo := HOk.out _ (List.getElem_mem hlt')
      obtain ⟨x, hx⟩ : ∃ x, x = xs.l[j] := ⟨_, rfl⟩
      obtain ⟨s, hs⟩ : ∃ s, s = ls[j] := ⟨_, rfl⟩
      rw [← hx] at hlx hxo hc
      rw [← hs] at hlx
      have HS := Lib.hid hs
      clear hx hs hA
      obtain ⟨⟨xa, xc, xl⟩, xr⟩ := x
      obtain ⟨h1, h2⟩ := hlx
      simp only at h1 h2
      subst h1 h2
      have a0 : wr.cell? ⟨b, off + j * 2, none⟩ = some (.slice xa 1 xc) := by simpa using hc wr HT.out.low 0 _ rfl
      have a1 : wr.cell? ⟨b, off + j * 2 + 1, none⟩ = some (.int .i64 0) := hc wr HT.out.low 1 _ rfl
      have HNd : Hid (Rd w 5 xa 1 ([lfN s].flatMap ndC)) := Lib.hid hxo.1
      clear hc hxo
      have c70 := HT.out.v7.cells 0 _ rfl
      have l7 := HT.out.v7.lt
      have hsz := HT.out.sz
      go_wp2_with fail
      obtain ⟨w1, hw1⟩ : ∃ w1, w1 = wr.alloc (.cells #[.slice xa 1 xc, .int .i64 0] 25) := ⟨_, rfl⟩
      rw [← hw1]
      have HT1 : Hid (Th w need ls j j A c B d w1) := Lib.hid (by rw [hw1]; exact HT.out.below (below_new wr _))
      obtain ⟨q, hq⟩ : ∃ q, q = wr.heap.size := ⟨_, rfl⟩
      rw [← hq]
      have HX1 : Hid (Vr w1 q [.slice xa 1 xc, .int .i64 0]) := Lib.hid (by rw [hw1, hq]; exact Vr.new wr _ _)
      have hq3 : w.heap.size + 3 ≤ q := by omega
      have hAq : ∀ g, (Value.slice A j c).ownBlock = some g → g ≠ q := fun g hg => by have := (HT.out.oA.lt g hg).2; omega
      clear hw1 hq HT a0 a1 c70 l7 hsz hrun hb
      go_loopw [31] (fun i w2 => ∃ (k : Nat) (A : Option Addr) (c : Nat), i = .int .i64 k ∧ k ≤ 1 ∧ Th w need ls (j + k) j A c B d w2 ∧ Vr w2 q [.slice xa 1 xc, .int .i64 0] ∧ ∀ g, (Value.slice A (j + k) c).ownBlock = some g → g ≠ q) (fun i _ => 1 - (intOf i).toNat)
      case atStart => exact ⟨0, A, c, rfl, by omega, HT1.out, HX1.out, hAq⟩
      case round =>
        rename World => w2
        obtain ⟨k, A2, c2, rfl, hk, ht2, hx2, hne2⟩ := hrel
        have HX2 := Lib.hid hx2
        have HNe := Lib.hid hne2
        clear hx2 hne2 hAq
        by_cases hk0 : k = 0
        · subst hk0
          have HT2 : Hid (Th w need ls j j A2 c2 B d w2) := Lib.hid ht2
          clear ht2
          obtain ⟨nb, no, hA2, hnb, hnc⟩ := HNd.out.cells (by simp [ndC])
          have hcc : ∀ j v, ([lfN s].flatMap ndC)[j]? = some v → w2.cell? ⟨nb, no + j, none⟩ = some v := fun j v hv => (HT2.out.low.cell (p := ⟨nb, no + j, none⟩) hnb).trans (hnc j v hv)
          have a0 : w2.cell? ⟨nb, no, none⟩ = some (.int .i64 1) := hcc 0 _ rfl
          have a1 : w2.cell? ⟨nb, no + 1, none⟩ = some (.int .i64 (s : Int)) := hcc 1 _ rfl
          have a2 : w2.cell? ⟨nb, no + 2, none⟩ = some (.int .i64 0) := hcc 2 _ rfl
          have a3 : w2.cell? ⟨nb, no + 3, none⟩ = some (.slice none 0 0) := hcc 3 _ rfl
          have a4 : w2.cell? ⟨nb, no + 4, none⟩ = some (.slice none 0 0) := hcc 4 _ rfl
          have HA2 := Lib.hid hA2
          have hrun : ∀ w', Sem.run Tryd.prog (Instr.indexAt 23 (.slice xa 1 xc) (.int .i64 0)) w' = .ok (Value.pointer (some ⟨nb, no, none⟩)) w' := fun w' => by
            rw [HA2.out]; go_simp
          clear hA2 hnc hcc
          go_wp2_with fail
          refine (cloneNil_any _).mono ?_
          rintro e w3 ⟨rfl, rfl⟩
          go_wp2_with fail
          refine (cloneNil_any _).mono ?_
          rintro e w3 ⟨rfl, rfl⟩
          go_wp2_with fail
          have HBn := Lib.hid (bon (below_new w2 (.cells #[.int .i64 1, .int .i64 (s : Int), .int .i64 0, .slice none 0 0, .slice none 0 0] 41)) (below_new (w2.alloc (.cells #[.int .i64 1, .int .i64 (s : Int), .int .i64 0, .slice none 0 0, .slice none 0 0] 41)) (.cells #[.int .i64 1, .int .i64 (s : Int), .int .i64 0, .slice none 0 0, .slice none 0 0] 41)))
          have HT3 := Lib.hid (HT2.out.below HBn.out)
          have hjl : j ≤ 1000 := by omega
          have hsz := HT2.out.sz
          have hq2 := HX2.out.lt
          go_loop [46] (fun i => i = .int .i64 0) (fun _ => 0)
          case atStart => rfl
          case round =>
            subst hrel
            have c7 := HT2.out.v7.cells 0 _ rfl
            have l7 := HT2.out.v7.lt
            go_wp2_with (at_builtin; refine wpList_append_lies _ rfl _ _ _ rfl (w.heap.size + 3) 41 iN _ 5 72 Tryd.underlying23 HIN.out HZN0.out HZN1.out HZN2.out rfl (by decide) _ _ _ rfl HT3.out.oA ⟨w2.heap.size + 1, 0, none⟩ 1 1 [.int .i64 1, .int .i64 (s : Int), .int .i64 0, .slice none 0 0, .slice none 0 0] rfl rfl (cell_new _ _ _ _ (by simp)) (by simp [Value.oneCell']) (by decide) (by simp [maxLen]; omega) (by omega) (by simp; omega) (w2.heap.size + 1 + 1) (by simp) ?_)
            intro g cap w4 hown hgrow hat hlt4
            have hvv := HT3.out.v7.grown hgrow (fun e => by have := (HT3.out.oA.lt _ e).1; omega)
            have c74 := hvv.cells 0 _ rfl
            have f74 := hvv.free 0 (by simp)
            have l74 := hvv.lt
            have HN := Lib.hid (HT2.out.node HBn.out hlt HS.out (by rw [List.map_take]; exact hown) hgrow)
            have HXn := Lib.hid (((HX2.out.below HBn.out).grown hgrow (fun e => HNe.out q e rfl)).grown (grown_set w4 ⟨w.heap.size + 1, 0, none⟩ (.slice (some ⟨g, 0, none⟩) (j + 1) cap)) (by simp; omega))
            have hgq : g ≠ q := by
              rcases hat with h | h
              · exact HNe.out g h
              · omega
            clear hvv hown hgrow hat
            go_wp2_with fail
            go_roundw
            case rel => exact ⟨1, some ⟨g, 0, none⟩, cap, rfl, by omega, HN.out, HXn.out, fun g' hg' => by simp only [Value.ownBlock, Option.some.injEq] at hg'; omega⟩
            case measure => simp [intOf]
        · obtain rfl : k = 1 := by omega
          have HT2 : Hid (Th w need ls (j + 1) j A2 c2 B d w2) := Lib.hid ht2
          clear ht2
          have c84 := HT2.out.v8.cells 4 _ rfl
          have l8 := HT2.out.v8.lt
          have x1 := HX2.out.cells 1 _ rfl
          have lx := HX2.out.lt
          have hjl : j ≤ 1000 := by omega
          have hsz := HT2.out.sz
          have HBn := Lib.hid (below_new w2 (.cells #[.int .i64 (j : Int)] 3))
          have HT3 := Lib.hid (HT2.out.below HBn.out)
          go_wp2_with (at_builtin; refine wpList_append_lies _ rfl _ _ _ rfl (w.heap.size + 3) 3 iI _ 1 8 Tryd.underlying29 HII.out HZI0.out HZI1.out HZI2.out rfl (by decide) _ _ _ rfl HT3.out.oB ⟨w2.heap.size, 0, none⟩ 1 1 [.int .i64 (j : Int)] rfl rfl (cell_new _ _ _ _ rfl) (by simp [Value.oneCell']) (by decide) (by simp [maxLen]; omega) (by omega) (by simp; omega) (w2.heap.size + 1) (by simp) ?_)
          intro g cap w4 hown hgrow hat hlt4
          have hvv := HT3.out.v8.grown hgrow (fun e => by have := (HT3.out.oB.lt _ e).1; omega)
          have c844 := hvv.cells 4 _ rfl
          have f84 := hvv.free 4 (by simp)
          have l84 := hvv.lt
          have HN := Lib.hid (HT2.out.kid HBn.out hown hgrow)
          clear hvv hown hgrow hat
          go_wp2_with fail
          go_roundw
          case rel => exact ⟨j + 1, A2, c2, some ⟨g, 0, none⟩, cap, by go_num, by omega, HN.out⟩
          case measure => simp [intOf]; omega
    · obtain rfl : j = xs.l.length := by omega
      have hjl : xs.l.length ≤ 1000 := by omega
      have hsz := HT.out.sz
      have c70 := HT.out.v7.cells 0 _ rfl
      have c71 := HT.out.v7.cells 1 _ rfl
      have f71 := HT.out.v7.free 1 (by simp)
      have l7 := HT.out.v7.lt
      have c80 := HT.out.v8.cells 0 _ rfl
      have c81 := HT.out.v8.cells 1 _ rfl
      have c82 := HT.out.v8.cells 2 _ rfl
      have c83 := HT.out.v8.cells 3 _ rfl
      have c84 := HT.out.v8.cells 4 _ rfl
      have l8 := HT.out.v8.lt
      have HO := Lib.hid (own_far HT.out.oA ⟨w.heap.size + 1, 1, none⟩ (.int .i64 (xs.l.length : Int)) (by show w.heap.size + 1 < w.heap.size + 3; omega))
      go_wp2_with (at_builtin; refine wpList_append_lies _ rfl _ _ _ rfl (w.heap.size + 3) 41 iN _ 5 72 Tryd.underlying23 HIN.out HZN0.out HZN1.out HZN2.out rfl (by decide) _ _ _ rfl (HO.out.alloc _) ⟨wr.heap.size, 0, none⟩ 1 1 [.int .i64 2, .int .i64 0, .int .i64 (need : Int), .slice none 0 0, .slice B xs.l.length d] rfl rfl (cell_new _ _ _ _ (by simp)) (by simp [Value.oneCell']) (by decide) (by simp [maxLen]; omega) (by omega) (by simp; omega) (wr.heap.size + 1) (by simp) ?_)
      intro g cap w4 hown hgrow hat hlt4
      have hba : Below (wr.setCell ⟨w.heap.size + 1, 1, none⟩ (.int .i64 (xs.l.length : Int))).heap.size (wr.setCell ⟨w.heap.size + 1, 1, none⟩ (.int .i64 (xs.l.length : Int))) ((wr.setCell ⟨w.heap.size + 1, 1, none⟩ (.int .i64 (xs.l.length : Int))).alloc (.cells #[.int .i64 2, .int .i64 0, .int .i64 (need : Int), .slice none 0 0, .slice B xs.l.length d] 41)) := below_new _ _
      have far : ∀ k, k < w.heap.size + 3 → (Value.slice A xs.l.length c).ownBlock ≠ some k := fun k hk e => by have := (HT.out.oA.lt _ e).1; omega
      have hv7 := ((HT.out.v7.set 1 (.int .i64 (xs.l.length : Int))).below hba).grown hgrow (far _ (by omega))
      have hv6 := ((HT.out.v6.grown (grown_set wr ⟨w.heap.size + 1, 1, none⟩ (.int .i64 (xs.l.length : Int))) (by simp)).below hba).grown hgrow (far _ (by omega))
      have c740 := hv7.cells 0 _ rfl
      have c741 := hv7.cells 1 _ rfl
      have f740 := hv7.free 0 (by simp)
      have l74 := hv7.lt
      have c640 := hv6.cells 0 _ rfl
      have c641 := hv6.cells 1 _ rfl
      have f640 := hv6.free 0 (by simp)
      have f641 := hv6.free 1 (by simp)
      have l64 := hv6.lt
      have hB4 : Below w.heap.size w w4 := below_grown (bon (HT.out.low.setCell (p := ⟨w.heap.size + 1, 1, none⟩) (by show w.heap.size ≤ w.heap.size + 1; omega) (.int .i64 (xs.l.length : Int))) hba) (by simp; omega) hgrow (fun k hk => by have := (HT.out.oA.lt k hk).1; omega)
      have hoB : w4.ownsRow (w.heap.size + 3) 3 1 (.slice B xs.l.length d) xs.l.length ((List.range xs.l.length).flatMap nat1) :=
        own_kept (ownsRow_below (own_far HT.out.oB ⟨w.heap.size + 1, 1, none⟩ (.int .i64 (xs.l.length : Int)) (by show w.heap.size + 1 < w.heap.size + 3; omega)) hba) hgrow (fun k hk => own_apart HT.out.oB HT.out.oA (by decide) k hk)
      have e : ls.take xs.l.length = ls := by rw [HLen.out]; exact List.take_length
      have e2 : List.flatMap ndC (List.take xs.l.length (List.map lfN ls)) ++ [Value.int .i64 2, .int .i64 0, .int .i64 (need : Int), .slice none 0 0, .slice B xs.l.length d] = (ls.map lfN ++ [topN need B d ls.length]).flatMap ndC := by
        rw [← List.map_take, e, List.flatMap_append, HLen.out]
        simp [ndC, topN]
      have hcap : xs.l.length + 1 ≤ cap := by
        rcases hown.2 with ⟨h, _⟩ | ⟨g', cap', cur, h, _, _, h2, _⟩
        · simp at h
        · injection h with h3 h4 h5; omega
      have HX : Hid (New (w.heap.size + 3) (fun W => Rd W 5 (some ⟨g, 0, none⟩) (xs.l.length + 1) ((ls.map lfN ++ [topN need B d ls.length]).flatMap ndC) ∧ Rd W 1 B xs.l.length ((List.range xs.l.length).flatMap nat1)) w4) := Lib.hid (by
        have h1 := new_row hown (Nat.le_refl _)
        rw [e2] at h1
        exact Foot.imp2 h1 (new_row hoB (Nat.le_refl _)) (fun _ a b => ⟨a, b⟩))
      have HB4 := Lib.hid hB4
      have HLen2 : Hid (ls.length = xs.l.length) := Lib.hid HLen.out.symm
      clear hv7 hv6 hB4 hoB e e2 hown hgrow hat hba far c70 c71 c80 c81 c82 c83 c84 HO f71 l7 l8
      go_wp2_with fail
      refine bodyPost_ret (v := .agg #[.slice (some ⟨g, 0, none⟩) (xs.l.length + 1) cap, .int .i64 (xs.l.length : Int)]) (by simp [results, Tryd.results9, go_sem, c640, c641]) rfl ⟨⟨⟨some ⟨g, 0, none⟩, cap, ls.map lfN ++ [topN need B d ls.length]⟩, ls.length⟩, ?_, ?_, ?_, ?_⟩
      · show Ending.returned (.agg #[.slice (some ⟨g, 0, none⟩) (xs.l.length + 1) cap, .int .i64 (xs.l.length : Int)]) = Ending.returned (.agg #[.slice (some ⟨g, 0, none⟩) (ls.map lfN ++ [topN need B d ls.length]).length cap, .int .i64 (ls.length : Int)])
        rw [List.length_append, List.length_map, HLen2.out]
        rfl
      · simp [Ex.pr, Ex.lg, th, Nd.lg, lfN, leaf, topN]
      · refine New.low (b := w.heap.size + 3) (New.imp (((HX.out.set _ _ (by show w.heap.size + 1 < w.heap.size + 3; omega)).set _ _ (by show w.heap.size < w.heap.size + 3; omega)).set _ _ (by show w.heap.size < w.heap.size + 3; omega)) (fun W h => ⟨?_, ?_, ?_⟩)) (by omega)
        · show Rd W 5 (some ⟨g, 0, none⟩) (ls.map lfN ++ [topN need B d ls.length]).length _
          rw [List.length_append, List.length_map, HLen2.out]
          rw [HLen2.out] at h
          exact h.1
        · show (ls.map lfN ++ [topN need B d ls.length]).length ≤ cap
          rw [List.length_append, List.length_map, HLen2.out]
          exact hcap
        · intro n hn
          rcases List.mem_append.1 hn with hn | hn
          · obtain ⟨s, _, rfl⟩ := List.mem_map.1 hn
            exact Rd.nil _ _ _
          · rw [List.mem_singleton] at hn
            subst hn
            show Rd W 1 B (List.range ls.length).length ((List.range ls.length).flatMap nat1)
            rw [List.length_range, HLen2.out]
            exact h.2
      · exact ((HB4.out.setCell (by show w.heap.size ≤ w.heap.size + 1; omega) _).setCell (Nat.le_refl _) _).setCell (Nat.le_refl _) _
set_option maxRecDepth 100000 in
set_option maxHeartbeats 2000000 in
theorem Threshold_any (k : Nat) (A : Option Addr) (c : Nat) (l : List Nat) (w : World) (hr : Rd w 1 A l.length (l.flatMap nat1)) (hc : l.length ≤ c) (hn : l.length ≤ 1000) (hl : ∀ x ∈ l, x < 12) (hd : l.Nodup) (h1 : 1 ≤ k) (h2 : k ≤ l.length) :
    Calls Tryd.prog 4 #[.int .i64 (k : Int), .slice A l.length c] w (RetExE (th k l, l.length) w) := by
  have HB0 := Lib.hid (below_new w (.cells #[.slice none 0 0, .int .i64 0] 25))
  have HV0 := Lib.hid (Vr.new w [.slice none 0 0, .int .i64 0] 25)
  obtain ⟨w1, hw1⟩ : ∃ w1, w1 = w.alloc (.cells #[.slice none 0 0, .int .i64 0] 25) := ⟨_, rfl⟩
  have HD := Lib.hid (distinct_any A c l w1 (by rw [hw1]; exact hr.below HB0.out) hc (by omega) hl hd)
  have HS := Lib.hid (servers_any A c l w1 (by rw [hw1]; exact hr.below HB0.out) hn)
  have HW := Lib.hid hw1
  have d1 : decide ((k : Int) < 1) = false := by rw [decide_eq_false_iff_not]; omega
  have d2 : decide (l.length < k) = false := by rw [decide_eq_false_iff_not]; omega
  clear hr hl hd hw1 hc
  go_enter Tryd.func4, Tryd.ntmps4
  go_upto_region 1 with fail
  rw [← HW.out]
  go_wp2_with fail
  refine HD.out.mono ?_
  rintro e w2 ⟨rfl, rfl⟩
  go_wp2_with fail
  refine HS.out.mono ?_
  rintro e w2 ⟨xs, rfl, hxl, hlf, hnew, hb2⟩
  have HT := Lib.hid (threshold_any k xs l w2 hxl hlf hnew.out.1 hnew.out.2 hn)
  have HB2 : Hid (Below w.heap.size w w2) := Lib.hid (by rw [HW.out] at hb2; exact bon HB0.out hb2)
  have HV2 : Hid (Vr w2 w.heap.size [.slice none 0 0, .int .i64 0]) := Lib.hid (by rw [HW.out] at hb2; exact HV0.out.below hb2)
  have hz2 : w.heap.size < w2.heap.size := HV2.out.lt
  clear hxl hlf hnew hb2
  go_wp2_with fail
  refine HT.out.mono ?_
  rintro e w3 ⟨x, rfl, hp, hnew, hb3⟩
  have hv3 := HV2.out.below hb3
  have HB3 := Lib.hid (bon HB2.out hb3)
  have HP := Lib.hid hp
  have HN := Lib.hid hnew
  have c0 := hv3.cells 0 _ rfl
  have c1 := hv3.cells 1 _ rfl
  have f0 := hv3.free 0 (by simp)
  have f1 := hv3.free 1 (by simp)
  have l3 := hv3.lt
  clear hp hnew hb3 hv3
  go_wp2_with fail
  refine bodyPost_ret (v := .tuple #[.agg #[.slice x.nodes.a x.nodes.l.length x.nodes.c, .int .i64 (x.root : Int)], .int .i64 0]) (by simp [results, Tryd.results4, go_sem, c0, c1]) rfl ⟨x, rfl, HP.out, ?_, ?_⟩
  · exact ((HN.out.set ⟨w.heap.size, 0, none⟩ _ hz2).set ⟨w.heap.size, 1, none⟩ _ hz2).low (by omega)
  · exact (HB3.out.setCell (Nat.le_refl _) _).setCell (Nat.le_refl _) _
end Go.Proofs.YtlklmpcfhnbhgaaDoor
