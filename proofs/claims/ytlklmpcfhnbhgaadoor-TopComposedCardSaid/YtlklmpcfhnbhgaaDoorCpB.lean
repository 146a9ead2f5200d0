/- Lists of structs that a loop collects; slices.Clone at ints and nodes; build.server, build.servers. -/
import Derived.Test.YtlklmpcfhnbhgaaDoorCpA
namespace Go.Proofs.YtlklmpcfhnbhgaaDoor
open Go.RowKit

/-- the state of a loop that collects structs, each with memory of its own, in a row of the call's own from block B on -/
structure Col {α : Type} (T k : Nat) (C : α → List Value) (ok : α → World → Prop) (lo B : Nat) (w : World) (o : Value) (xs : List α) (wr : World) : Prop where
  own : wr.ownsRow B T k o xs.length (xs.flatMap C)
  low : Below w.heap.size w wr
  base : w.heap.size ≤ B ∧ B ≤ wr.heap.size
  foot : ∃ F, Foot F (fun W => ∀ y ∈ xs, ok y W) wr ∧ ∀ i, F i → lo ≤ i ∧ i < wr.heap.size ∧ o.ownBlock ≠ some i
theorem Col.start {α : Type} (T k : Nat) (C : α → List Value) (ok : α → World → Prop) (lo B : Nat) (w wr : World) (h : Below w.heap.size w wr) (hB : w.heap.size ≤ B ∧ B ≤ wr.heap.size) : Col T k C ok lo B w (.slice none 0 0) [] wr :=
  ⟨World.ownsRow_nil _ _ _ _, h, hB, fun _ => False, fun _ _ _ => by simp, fun _ h => h.elim⟩
section
variable {α : Type} {T k : Nat} {C : α → List Value} {ok : α → World → Prop} {lo B : Nat} {w : World} {o v' : Value} {xs : List α} {x : α} {wr w2 w3 w4 : World}
theorem Col.below (h : Col T k C ok lo B w o xs wr) (h2 : Below wr.heap.size wr w2) : Col T k C ok lo B w o xs w2 := by
  obtain ⟨F, hF, hi⟩ := h.foot
  exact ⟨ownsRow_below h.own h2, bon h.low h2, ⟨h.base.1, Nat.le_trans h.base.2 h2.size⟩, F, hF.on h2.size (fun i h => h2.block i (hi i h).2.1), fun i h => ⟨(hi i h).1, Nat.lt_of_lt_of_le (hi i h).2.1 h2.size, (hi i h).2.2⟩⟩
/-- a variable of the call's own, apart from all that, is stored into -/
theorem Col.set (h : Col T k C ok lo B w o xs wr) (p : Addr) (v : Value) (h1 : w.heap.size ≤ p.block) (h2 : p.block < B) (h3 : p.block < lo) : Col T k C ok lo B w o xs (wr.setCell p v) := by
  obtain ⟨F, hF, hi⟩ := h.foot
  have hne : ∀ i, p.block ≠ i → (wr.setCell p v).heap[i]? = wr.heap[i]? := fun i hi => heap_setCell_other wr p i v (fun e => hi e.symm)
  refine ⟨?_, h.low.setCell h1 v, ⟨h.base.1, by simpa using h.base.2⟩, F, hF.on (by simp) (fun i h => hne i (by have := (hi i h).1; omega)), fun i h => ⟨(hi i h).1, by simpa using (hi i h).2.1, (hi i h).2.2⟩⟩
  refine ⟨h.own.1, ?_⟩
  rcases h.own.2 with h4 | ⟨g, cap, cur, hv, hge, hg, rest⟩
  · exact .inl h4
  · exact .inr ⟨g, cap, cur, hv, hge, (hne g (by omega)).trans hg, rest⟩
theorem Col.step (h : Col T k C ok lo B w o xs wr) (h2 : Below wr.heap.size wr w2)
    (hx : ∃ Fx, Foot Fx (ok x) w2 ∧ ∀ i, Fx i → lo ≤ i ∧ i < w2.heap.size ∧ o.ownBlock ≠ some i) (h3 : Below w2.heap.size w2 w3)
    (hown : w4.ownsRow B T k v' (xs.length + 1) (xs.flatMap C ++ C x)) (hgr : w3.grownBy w4 o.ownBlock) (hat : v'.ownBlock = o.ownBlock ∨ v'.ownBlock = some w3.heap.size) : Col T k C ok lo B w v' (xs ++ [x]) w4 := by
  have hc := h.below h2
  obtain ⟨F, hF, hi⟩ := hc.foot
  obtain ⟨Fx, hFx, hix⟩ := hx
  have z2 := h2.size
  have z3 := h3.size
  have z4 := hgr.size
  have hb := h.base
  have keep : ∀ i, i < w2.heap.size → o.ownBlock ≠ some i → w4.heap[i]? = w2.heap[i]? := fun i hi hne =>
    (hgr.block i (by omega) (fun e => hne e.symm)).trans (h3.block i hi)
  have fin : ∀ i, i < w2.heap.size → o.ownBlock ≠ some i → v'.ownBlock ≠ some i := fun i h1 h2 e => by
    rcases hat with h | h
    · exact h2 (h.symm.trans e)
    · rw [h] at e; simp only [Option.some.injEq] at e; omega
  refine ⟨by simpa using hown, below_grown (bon hc.low h3) (bon hc.low h3).size hgr (fun g hg => by have := (hc.own.lt g hg).1; omega), ⟨hb.1, by omega⟩, fun i => F i ∨ Fx i, ?_, ?_⟩
  · refine Foot.imp2 ((hF.on (by omega) (fun i h => keep i (hi i h).2.1 (hi i h).2.2)).mono (fun _ h => .inl h)) ((hFx.on (by omega) (fun i h => keep i (hix i h).2.1 (hix i h).2.2)).mono (fun _ h => .inr h)) (fun w' a b y hy => ?_)
    rcases List.mem_append.1 hy with hy | hy
    · exact a y hy
    · rw [List.mem_singleton] at hy; subst hy; exact b
  · rintro i (h | h)
    · obtain ⟨a, b, c⟩ := hi i h
      exact ⟨a, by omega, fin i b c⟩
    · obtain ⟨a, b, c⟩ := hix i h
      exact ⟨a, by omega, fin i b c⟩
/-- what was made since the last round -/
theorem Col.new (h : Col T k C ok lo B w o xs wr) (hn : New wr.heap.size (ok x) w2) (hlo : lo ≤ wr.heap.size) : ∃ Fx, Foot Fx (ok x) w2 ∧ ∀ i, Fx i → lo ≤ i ∧ i < w2.heap.size ∧ o.ownBlock ≠ some i :=
  ⟨_, hn, fun i hi => ⟨by omega, hi.2, fun e => by have := (h.own.lt i e).2; omega⟩⟩
theorem Col.done {A : Option Addr} {n c : Nat} (h : Col T k C ok lo B w (.slice A n c) xs wr) (hn : n = xs.length) (hlo : lo ≤ B) :
    Foot (fun i => lo ≤ i ∧ i < wr.heap.size) (fun W => Rd W k A xs.length (xs.flatMap C) ∧ ∀ y ∈ xs, ok y W) wr := by
  subst hn
  obtain ⟨F, hF, hi⟩ := h.foot
  exact Foot.imp2 ((new_row h.own (Nat.le_refl _)).mono (fun i hi => ⟨by omega, hi.2⟩)) (hF.mono (fun i h => ⟨(hi i h).1, (hi i h).2.1⟩)) (fun w' a b => ⟨a, b⟩)
end
theorem own_ne {w : World} {base e k n m : Nat} {v : Value} {xs : List Value} (h : w.ownsRow base e k v n xs) (hb : m < base) : v.ownBlock ≠ some m := fun hv => by
  have := (h.lt m hv).1
  omega

/-! what comes back -/
def RetErr (n : Int) (w : World) (e : Ending) (w' : World) : Prop := e = .returned (.int .i64 n) ∧ Below w.heap.size w w'
def RetExE (r : List Lg × Nat) (w : World) (e : Ending) (w' : World) : Prop :=
  ∃ x : Ex, e = .returned (.tuple #[.agg #[.slice x.nodes.a x.nodes.l.length x.nodes.c, .int .i64 (x.root : Int)], .int .i64 0]) ∧ x.pr = r ∧ New w.heap.size x.ok w' ∧ Below w.heap.size w w'
def RetNats (l : List Nat) (w : World) (e : Ending) (w' : World) : Prop :=
  ∃ A c, e = .returned (.slice A l.length c) ∧ New w.heap.size (fun W => Rd W 1 A l.length (l.flatMap nat1)) w' ∧ (l = [] → A = none → c = 0) ∧ Below w.heap.size w w'
def RetNds (l : List Nd) (w : World) (e : Ending) (w' : World) : Prop :=
  ∃ A c, e = .returned (.slice A l.length c) ∧ w'.ownsRow w.heap.size 41 5 (.slice A l.length c) l.length (l.flatMap ndC) ∧ Below w.heap.size w w'
def RetEx (r : List Lg × Nat) (w : World) (e : Ending) (w' : World) : Prop :=
  ∃ x : Ex, e = .returned (.agg #[.slice x.nodes.a x.nodes.l.length x.nodes.c, .int .i64 (x.root : Int)]) ∧ x.pr = r ∧ New w.heap.size x.ok w' ∧ Below w.heap.size w w'
/-- a server in memory -/
def lfN (s : Nat) : Nd := ⟨1, s, 0, ⟨none, 0, []⟩⟩
def isLf (s : Nat) (x : Ex) : Prop := x.nodes.l = [lfN s] ∧ x.root = 0
def RetLf (s : Nat) (w : World) (e : Ending) (w' : World) : Prop :=
  ∃ x : Ex, e = .returned (.agg #[.slice x.nodes.a x.nodes.l.length x.nodes.c, .int .i64 (x.root : Int)]) ∧ isLf s x ∧ New w.heap.size x.ok w' ∧ Below w.heap.size w w'
def RetLfs (l : List Nat) (w : World) (e : Ending) (w' : World) : Prop :=
  ∃ x : Sl Ex, e = .returned (.slice x.a x.l.length x.c) ∧ x.l.length = l.length ∧ (∀ j (h : j < x.l.length) (h' : j < l.length), isLf l[j] x.l[j]) ∧ New w.heap.size (fun W => Rd W 2 x.a x.l.length (x.l.flatMap exC) ∧ ∀ y ∈ x.l, y.ok W) w' ∧ Below w.heap.size w w'
theorem New.set {b : Nat} {P : World → Prop} {w : World} (h : New b P w) (p : Addr) (v : Value) (hp : p.block < b) : New b P (w.setCell p v) :=
  Foot.mono (Foot.on h (by simp) (fun k hk => heap_setCell_other w p k v (fun e => by omega))) (fun _ hk => ⟨hk.1, by simpa using hk.2⟩)
theorem nat1_one (l : List Nat) : ∀ u ∈ l.flatMap nat1, u.oneCell' = true := by
  intro u hu
  obtain ⟨r, _, hr⟩ := List.mem_flatMap.1 hu
  simp only [nat1, List.mem_cons, List.not_mem_nil, or_false] at hr
  subst hr; rfl
theorem ndC_one (l : List Nd) : ∀ u ∈ l.flatMap ndC, u.oneCell' = true := by
  intro u hu
  obtain ⟨r, _, hr⟩ := List.mem_flatMap.1 hu
  simp only [ndC, List.mem_cons, List.not_mem_nil, or_false] at hr
  rcases hr with rfl | rfl | rfl | rfl | rfl <;> rfl
theorem cloneNil_any (w : World) : Calls Tryd.prog 12 #[.slice none 0 0] w (fun e w' => e = .returned (.slice none 0 0) ∧ w = w') := by
  have q22 : ∀ (w : World) (a : Option Addr) (n c n' c' : Nat), (binOp .eql 29 (.slice a n c) (.slice none n' c')).run Tryd.prog w = .ok (.bool a.isNone) w := fun w a n c n' c' => Lib.run_eql_slice_nil w _ _ a n c n' c' Tryd.underlying29
  go_enter Tryd.func12, Tryd.ntmps12
  go_wp2_with fail
  go_ret
  exact ⟨rfl, rfl⟩
set_option maxRecDepth 100000 in
set_option maxHeartbeats 1000000 in
theorem cloneI_any (A : Option Addr) (c : Nat) (l : List Nat) (w : World) (hr : Rd w 1 A l.length (l.flatMap nat1)) (hn : l.length ≤ 1000000) :
    Calls Tryd.prog 12 #[.slice A l.length c] w (RetNats l w) := by
  obtain ⟨i0, hi, hz0, hz1, hz2⟩ := info_parts infoI
  have HI := Lib.hid hi
  have HZ0 := Lib.hid hz0
  have HZ1 := Lib.hid hz1
  have HZ2 := Lib.hid hz2
  have HR := Lib.hid hr
  have HOne := Lib.hid (nat1_one l)
  have q22 : ∀ (w : World) (a : Option Addr) (n c n' c' : Nat), (binOp .eql 29 (.slice a n c) (.slice none n' c')).run Tryd.prog w = .ok (.bool a.isNone) w := fun w a n c n' c' => Lib.run_eql_slice_nil w _ _ a n c n' c' Tryd.underlying29
  clear hi hz0 hz1 hz2 hr
  cases A with
  | none =>
    have hl : l.length = 0 := by
      by_cases hp : 0 < l.length
      · obtain ⟨b, o, e, _⟩ := HR.out.cells (by rw [flat_len nat1 1 nat1_len]; omega)
        simp at e
      · omega
    obtain rfl : l = [] := List.eq_nil_of_length_eq_zero hl
    clear hl
    go_enter Tryd.func12, Tryd.ntmps12
    go_wp2_with fail
    go_ret
    exact ⟨none, 0, rfl, new_nil, fun _ _ => rfl, Below.refl _ _⟩
  | some a =>
    have HO := Lib.hid (World.ownsRow_lit (base := w.heap.size) (e := 3) (size := 1) w #[] 0 (Nat.le_refl _) (by simp) rfl)
    have hnews : ∀ j u, (l.flatMap nat1)[j]? = some u → (w.alloc (.cells #[] 3)).cell? (a.add j) = some u := fun j u hu => by
      have hj : j < (l.flatMap nat1).length := (List.getElem?_eq_some_iff.1 hu).1
      obtain ⟨b, o, e, hb, hc⟩ := HR.out.cells (by omega)
      simp only [Option.some.injEq] at e
      subst e
      rw [add_plain']
      exact ((below_new w _).cell (p := ⟨b, o + j, none⟩) hb).trans (hc j u hu)
    have HN := Lib.hid hnews
    have HLen := Lib.hid (flat_len nat1 1 nat1_len l)
    clear hnews
    go_enter Tryd.func12, Tryd.ntmps12
    go_wp2_with (at_builtin; refine wpList_append_own _ rfl _ _ 29 rfl w.heap.size 3 i0 _ 1 8 Tryd.underlying29 HI.out HZ0.out HZ1.out HZ2.out rfl (by decide) _ 0 [] rfl HO.out a l.length c (l.flatMap nat1) rfl HLen.out HN.out HOne.out (by simp [maxLen]; omega) (by omega) (by simp) ?_)
    intro v' w2 hown' hgrow hnil
    obtain ⟨A, c2, hv⟩ := ownsRow_form hown'
    subst hv
    have HO2 := Lib.hid hown'
    have HG2 := Lib.hid hgrow
    have HNil := Lib.hid hnil
    clear hown' hgrow hnil
    go_wp2_with fail
    go_ret
    have hB := below_grown (below_new w (.cells #[] 3)) (by simp) HG2.out (fun g hg => by simp [Value.ownBlock] at hg; omega)
    have h9 := HO2.out
    refine ⟨A, c2, rfl, new_row h9 (Nat.le_refl _), fun hl hA => ?_, hB⟩
    subst hA
    have h8 := h9.2
    rcases h8 with h8 | ⟨g, cap, cur, hv, _⟩
    · have := h8.1; injection this
    · simp at hv
set_option maxRecDepth 100000 in
set_option maxHeartbeats 1000000 in
theorem cloneN_any (A : Option Addr) (c : Nat) (l : List Nd) (w : World) (hr : Rd w 5 A l.length (l.flatMap ndC)) (hn : l.length ≤ 1000000) :
    Calls Tryd.prog 16 #[.slice A l.length c] w (RetNds l w) := by
  obtain ⟨i0, hi, hz0, hz1, hz2⟩ := info_parts infoN
  have HI := Lib.hid hi
  have HZ0 := Lib.hid hz0
  have HZ1 := Lib.hid hz1
  have HZ2 := Lib.hid hz2
  have HR := Lib.hid hr
  have HOne := Lib.hid (ndC_one l)
  have q22 : ∀ (w : World) (a : Option Addr) (n c n' c' : Nat), (binOp .eql 23 (.slice a n c) (.slice none n' c')).run Tryd.prog w = .ok (.bool a.isNone) w := fun w a n c n' c' => Lib.run_eql_slice_nil w _ _ a n c n' c' Tryd.underlying23
  clear hi hz0 hz1 hz2 hr
  cases A with
  | none =>
    have hl : l.length = 0 := by
      by_cases hp : 0 < l.length
      · obtain ⟨b, o, e, _⟩ := HR.out.cells (by rw [flat_len ndC 5 ndC_len]; omega)
        simp at e
      · omega
    obtain rfl : l = [] := List.eq_nil_of_length_eq_zero hl
    clear hl
    go_enter Tryd.func16, Tryd.ntmps16
    go_wp2_with fail
    go_ret
    exact ⟨none, 0, rfl, World.ownsRow_nil _ _ _ _, Below.refl _ _⟩
  | some a =>
    have HO := Lib.hid (World.ownsRow_lit (base := w.heap.size) (e := 41) (size := 5) w #[] 0 (Nat.le_refl _) (by simp) rfl)
    have hnews : ∀ j u, (l.flatMap ndC)[j]? = some u → (w.alloc (.cells #[] 41)).cell? (a.add j) = some u := fun j u hu => by
      have hj : j < (l.flatMap ndC).length := (List.getElem?_eq_some_iff.1 hu).1
      obtain ⟨b, o, e, hb, hc⟩ := HR.out.cells (by omega)
      simp only [Option.some.injEq] at e
      subst e
      rw [add_plain']
      exact ((below_new w _).cell (p := ⟨b, o + j, none⟩) hb).trans (hc j u hu)
    have HN := Lib.hid hnews
    have HLen := Lib.hid (flat_len ndC 5 ndC_len l)
    clear hnews
    go_enter Tryd.func16, Tryd.ntmps16
    go_wp2_with (at_builtin; refine wpList_append_own _ rfl _ _ 23 rfl w.heap.size 41 i0 _ 5 72 Tryd.underlying23 HI.out HZ0.out HZ1.out HZ2.out rfl (by decide) _ 0 [] rfl HO.out a l.length c (l.flatMap ndC) rfl HLen.out HN.out HOne.out (by simp [maxLen]; omega) (by omega) (by simp) ?_)
    intro v' w2 hown' hgrow hnil
    obtain ⟨A, c2, hv⟩ := ownsRow_form hown'
    subst hv
    have HO2 := Lib.hid hown'
    have HG2 := Lib.hid hgrow
    have HNil := Lib.hid hnil
    clear hown' hgrow hnil
    go_wp2_with fail
    go_ret
    have hB := below_grown (below_new w (.cells #[] 41)) (by simp) HG2.out (fun g hg => by simp [Value.ownBlock] at hg; omega)
    have h9 := HO2.out
    exact ⟨A, c2, rfl, h9, hB⟩
set_option maxRecDepth 100000 in
set_option maxHeartbeats 1000000 in
theorem server_any (i : Nat) (w : World) : Calls Tryd.prog 24 #[.int .i64 (i : Int)] w (RetLf i w) := by
  have HN : Hid (New w.heap.size (Ex.ok ⟨⟨some ⟨w.heap.size + 1, 0, none⟩, 1, [lfN i]⟩, 0⟩) ((w.alloc (.cells #[.slice (some ⟨w.heap.size + 1, 0, none⟩) 1 1, .int .i64 0] 25)).alloc (.cells #[.int .i64 1, .int .i64 (i : Int), .int .i64 0, .slice none 0 0, .slice none 0 0] 41))) := Lib.hid (by
    have h := new_cells (b := w.heap.size) (k := 5) (n := 1) (cs := [lfN i].flatMap ndC) (T := 41) (w := w.alloc (.cells #[.slice (some ⟨w.heap.size + 1, 0, none⟩) 1 1, .int .i64 0] 25)) rfl (by simp)
    rw [World.size_alloc] at h
    exact h.imp (fun w' h => ⟨h, Nat.le_refl _, fun n hn => by rw [List.mem_singleton] at hn; subst hn; exact Rd.nil _ _ _⟩))
  have HB : Hid (Below w.heap.size w ((w.alloc (.cells #[.slice (some ⟨w.heap.size + 1, 0, none⟩) 1 1, .int .i64 0] 25)).alloc (.cells #[.int .i64 1, .int .i64 (i : Int), .int .i64 0, .slice none 0 0, .slice none 0 0] 41))) := Lib.hid ((below_new w _).alloc (by simp) _)
  go_enter Tryd.func24, Tryd.ntmps24
  go_wp2_with fail
  exact bodyPost_ret (v := .agg #[.slice (some ⟨w.heap.size + 1, 0, none⟩) 1 1, .int .i64 0]) (by simp [results, Tryd.results24, go_sem]) rfl ⟨⟨⟨some ⟨w.heap.size + 1, 0, none⟩, 1, [lfN i]⟩, 0⟩, rfl, ⟨rfl, rfl⟩, HN.out, HB.out⟩
end Go.Proofs.YtlklmpcfhnbhgaaDoor
