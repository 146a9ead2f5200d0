/- What stands of an expression that is being written; the contract of expr.write. -/
import Derived.Test.YtlklmpcfhnbhgaaDoorCpG
import Derived.Deep.RegionLaw
namespace Go.Proofs.YtlklmpcfhnbhgaaDoor
open Go.RowKit

def blk (A : Option Addr) : Option Nat := A.map (·.block)
theorem blk_own (A : Option Addr) (n c : Nat) : (Value.slice A n c).ownBlock = blk A := by cases A <;> rfl
/-- the expression at block g: its nodes so far, in blocks that are none of 'no' -/
structure Ot (no : Nat → Prop) (w0 : World) (g : Nat) (acc : List Lg) (A : Option Addr) (c : Nat) (ys : List Nd) (r : Nat) (wr : World) : Prop where
  lg : ys.map Nd.lg = acc
  v : Vr wr g [.slice A ys.length c, .int .i64 (r : Int)]
  own : wr.ownsRow (g + 1) 41 5 (.slice A ys.length c) ys.length (ys.flatMap ndC)
  low : Below w0.heap.size w0 wr
  lt0 : w0.heap.size ≤ g
  foot : ∃ F, Foot F (fun W => ∀ y ∈ ys, y.ok W) wr ∧ ∀ i, F i → g < i ∧ i < wr.heap.size ∧ blk A ≠ some i ∧ ¬ no i
  nown : ∀ i, no i → blk A ≠ some i
section
variable {no no2 : Nat → Prop} {w0 : World} {g : Nat} {acc : List Lg} {A A' : Option Addr} {c c' : Nat} {ys : List Nd} {r : Nat} {wr w2 w3 w4 : World}
theorem Ot.len (h : Ot no w0 g acc A c ys r wr) : ys.length = acc.length := by rw [← h.lg]; simp
theorem Ot.no' (h : Ot no w0 g acc A c ys r wr) (hn : ∀ i, no2 i → no i ∨ wr.heap.size ≤ i) : Ot no2 w0 g acc A c ys r wr := by
  obtain ⟨F, hF, hi⟩ := h.foot
  refine ⟨h.lg, h.v, h.own, h.low, h.lt0, ⟨F, hF, fun i a => ⟨(hi i a).1, (hi i a).2.1, (hi i a).2.2.1, fun k => ?_⟩⟩, fun i k e => ?_⟩
  · rcases hn i k with k | k
    · exact (hi i a).2.2.2 k
    · have := (hi i a).2.1; omega
  · rcases hn i k with k | k
    · exact h.nown i k e
    · have := (h.own.lt i (by rw [blk_own]; exact e)).2; omega
/-- a block of 'no', or nothing that stands, has turned -/
theorem Ot.turn (h : Ot no w0 g acc A c ys r wr) {row : Option Nat} (hg : wr.grownBy w2 row) (hr : ∀ i, row = some i → no i ∧ g < i) : Ot no w0 g acc A c ys r w2 := by
  obtain ⟨F, hF, hi⟩ := h.foot
  refine ⟨h.lg, h.v.grown hg (fun e => by have := (hr _ e).2; omega), own_kept h.own hg (fun i hi e => h.nown i (hr i e).1 (by rw [← blk_own]; exact hi)),
    below_grown h.low h.low.size hg (fun i e => by have := (hr i e).2; have := h.lt0; omega), h.lt0, ⟨F, hF.on hg.size (fun i a => hg.block i (hi i a).2.1 (fun e => (hi i a).2.2.2 (hr i e.symm).1)), fun i a => ⟨(hi i a).1, Nat.lt_of_lt_of_le (hi i a).2.1 hg.size, (hi i a).2.2⟩⟩, h.nown⟩
theorem Ot.below (h : Ot no w0 g acc A c ys r wr) (hb : Below wr.heap.size wr w2) : Ot no w0 g acc A c ys r w2 := h.turn (grown_below hb none) (fun _ e => by simp at e)
/-- one node more -/
theorem Ot.push (h : Ot no w0 g acc A c ys r wr) (y : Nd) (hy : ∃ Fy, Foot Fy y.ok wr ∧ ∀ i, Fy i → g < i ∧ i < wr.heap.size ∧ blk A ≠ some i ∧ ¬ no i) (h3 : Below wr.heap.size wr w3) (hno : ∀ i, no i → i < wr.heap.size)
    (hown : w4.ownsRow (g + 1) 41 5 (.slice A' (ys.length + 1) c') (ys.length + 1) (ys.flatMap ndC ++ ndC y)) (hgr : w3.grownBy w4 (blk A)) (hat : blk A' = blk A ∨ blk A' = some w3.heap.size) :
    Ot no w0 g (acc ++ [y.lg]) A' c' (ys ++ [y]) ys.length ((w4.setCell ⟨g, 0, none⟩ (.slice A' (ys.length + 1) c')).setCell ⟨g, 1, none⟩ (.int .i64 (ys.length : Int))) := by
  obtain ⟨F, hF, hi⟩ := h.foot
  obtain ⟨Fy, hFy, hiy⟩ := hy
  have z3 := h3.size
  have z4 := hgr.size
  have hgl := h.v.lt
  have hog : blk A ≠ some g := fun e => by have := (h.own.lt g (by rw [blk_own]; exact e)).1; omega
  have keep : ∀ i, g < i → i < wr.heap.size → blk A ≠ some i → ((w4.setCell ⟨g, 0, none⟩ (.slice A' (ys.length + 1) c')).setCell ⟨g, 1, none⟩ (.int .i64 (ys.length : Int))).heap[i]? = wr.heap[i]? := fun i h0 h1 h2 => by
    rw [heap_setCell_other _ _ _ _ (by show i ≠ g; omega), heap_setCell_other _ _ _ _ (by show i ≠ g; omega)]
    exact (hgr.block i (by omega) (fun e => h2 e.symm)).trans (h3.block i h1)
  have fin : ∀ i, i < wr.heap.size → blk A ≠ some i → blk A' ≠ some i := fun i h1 h2 e => by
    rcases hat with k | k
    · exact h2 (k.symm.trans e)
    · rw [k] at e; simp only [Option.some.injEq] at e; omega
  refine ⟨by rw [List.map_append, h.lg]; rfl, ?_, ?_, ?_, h.lt0, ⟨fun i => F i ∨ Fy i, ?_, ?_⟩, fun i k => fin i (hno i k) (h.nown i k)⟩
  · exact (((((h.v.below h3).grown hgr hog).set 0 _).set 1 _).eq (by simp))
  · have h9 := own_far (own_far hown ⟨g, 0, none⟩ (.slice A' (ys.length + 1) c') (by show g < g + 1; omega)) ⟨g, 1, none⟩ (.int .i64 (ys.length : Int)) (by show g < g + 1; omega)
    simpa using h9
  · exact ((below_grown (bon h.low h3) (bon h.low h3).size hgr (fun i e => by have := (h.own.lt i (by rw [blk_own]; exact e)).1; have := h.lt0; omega)).setCell h.lt0 _).setCell h.lt0 _
  · refine Foot.imp2 ((hF.on (by simp; omega) (fun i a => keep i (hi i a).1 (hi i a).2.1 (hi i a).2.2.1)).mono (fun _ a => .inl a)) ((hFy.on (by simp; omega) (fun i a => keep i (hiy i a).1 (hiy i a).2.1 (hiy i a).2.2.1)).mono (fun _ a => .inr a)) (fun w' a b y' hy' => ?_)
    rcases List.mem_append.1 hy' with hy' | hy'
    · exact a y' hy'
    · rw [List.mem_singleton] at hy'; subst hy'; exact b
  · rintro i (a | a)
    · obtain ⟨a1, a2, a3, a4⟩ := hi i a
      exact ⟨a1, by simp; omega, fin i a2 a3, a4⟩
    · obtain ⟨a1, a2, a3, a4⟩ := hiy i a
      exact ⟨a1, by simp; omega, fin i a2 a3, a4⟩
end
/-- only the block g, the nodes' row and new memory have turned -/
structure Ft (g : Nat) (A : Option Addr) (w w' : World) (A' : Option Addr) : Prop where
  size : w.heap.size ≤ w'.heap.size
  keep : ∀ i, i < w.heap.size → i ≠ g → blk A ≠ some i → w'.heap[i]? = w.heap[i]?
  at' : blk A' = blk A ∨ ∃ b, blk A' = some b ∧ w.heap.size ≤ b
section
variable {g : Nat} {A A1 A2 : Option Addr} {w w1 w2 : World}
theorem Ft.below (h : Below w.heap.size w w1) : Ft g A w w1 A := ⟨h.size, fun i hi _ _ => h.block i hi, .inl rfl⟩
theorem Ft.trans (h : Ft g A w w1 A1) (k : Ft g A1 w1 w2 A2) : Ft g A w w2 A2 := by
  have hs := h.size
  have ks := k.size
  refine ⟨by omega, fun i h1 h2 h3 => ?_, ?_⟩
  · refine (k.keep i (by omega) h2 (fun e => ?_)).trans (h.keep i h1 h2 h3)
    rcases h.at' with a | ⟨b, a, hb⟩
    · exact h3 (a.symm.trans e)
    · rw [a] at e; simp only [Option.some.injEq] at e; omega
  · rcases k.at' with a | ⟨b, a, hb⟩
    · rcases h.at' with a2 | ⟨b, a2, hb⟩
      · exact .inl (a.trans a2)
      · exact .inr ⟨b, a.trans a2, hb⟩
    · exact .inr ⟨b, a, by omega⟩
/-- a block that is new since w has turned -/
theorem Ft.row (h : Ft g A w w1 A1) {row : Option Nat} (hg : w1.grownBy w2 row) (hr : ∀ i, row = some i → w.heap.size ≤ i) : Ft g A w w2 A1 :=
  ⟨Nat.le_trans h.size hg.size, fun i h1 h2 h3 => (hg.block i (Nat.lt_of_lt_of_le h1 h.size) (fun e => by have := hr i e.symm; omega)).trans (h.keep i h1 h2 h3), h.at'⟩
theorem Ft.own (h : Ft g A w w1 A1) (hg : w1.grownBy w2 (blk A1)) (hat : blk A2 = blk A1 ∨ blk A2 = some w1.heap.size) : Ft g A w w2 A2 := by
  have hs := h.size
  refine ⟨Nat.le_trans h.size hg.size, fun i h1 h2 h3 => (hg.block i (Nat.lt_of_lt_of_le h1 h.size) (fun e => ?_)).trans (h.keep i h1 h2 h3), ?_⟩
  · rcases h.at' with a | ⟨b, a, hb⟩
    · exact h3 (a.symm.trans e.symm)
    · rw [a] at e; simp only [Option.some.injEq] at e; omega
  · rcases hat with a | a
    · rcases h.at' with a2 | ⟨b, a2, hb⟩
      · exact .inl (a.trans a2)
      · exact .inr ⟨b, a.trans a2, hb⟩
    · exact .inr ⟨_, a, hs⟩
theorem Ft.set (h : Ft g A w w1 A1) (k : Nat) (v : Value) : Ft g A w (w1.setCell ⟨g, k, none⟩ v) A1 :=
  ⟨by simpa using h.size, fun i h1 h2 h3 => (heap_setCell_other _ _ _ _ (by show i ≠ g; exact h2)).trans (h.keep i h1 h2 h3), h.at'⟩
end
theorem own_same {w w' : World} {base e k n : Nat} {v : Value} {xs : List Value} (h : w.ownsRow base e k v n xs) (hk : ∀ b, v.ownBlock = some b → w'.heap[b]? = w.heap[b]?) : w'.ownsRow base e k v n xs := by
  refine ⟨h.1, ?_⟩
  rcases h.2 with h1 | ⟨g, cap, cur, hv, hge, hg, rest⟩
  · exact .inl h1
  · exact .inr ⟨g, cap, cur, hv, hge, (hk g (by rw [hv]; rfl)).trans hg, rest⟩
theorem own_foot {w : World} {base e k n c : Nat} {A : Option Addr} {xs : List Value} (h : w.ownsRow base e k (.slice A n c) n xs) : Foot (fun i => blk A = some i) (fun W => Rd W k A n xs) w := by
  intro w' hs hk
  exact Rd.own (own_same h (fun b hb => hk b (by rw [← blk_own A n c]; exact hb)))

/-! what 'write' leaves, in its steps -/
def wstep (f : Nat) (x : List Lg) (ls : List (List Lg × Nat)) (p : List Nat × List Lg) (k : Nat) : List Nat × List Lg := (p.1 ++ [(wr f x k ls p.2).length - 1], wr f x k ls p.2)
theorem wr_node (f : Nat) (x : List Lg) (i : Nat) (ls : List (List Lg × Nat)) (acc : List Lg) (n : Lg) (hn : x[i]? = some n) (hk : ¬ (n.kind = 1 ∧ n.server < ls.length)) :
    wr (f + 1) x i ls acc = (n.kids.foldl (wstep f x ls) ([], acc)).2 ++ [{ n with kids := (n.kids.foldl (wstep f x ls) ([], acc)).1 }] := by
  rw [wr, hn]
  simp only [if_neg hk]
  rfl
theorem wr_sub (f : Nat) (x : List Lg) (i : Nat) (ls : List (List Lg × Nat)) (acc : List Lg) (n : Lg) (y : List Lg × Nat) (hn : x[i]? = some n) (hk : n.kind = 1) (hy : ls[n.server]? = some y) :
    wr (f + 1) x i ls acc = wr f y.1 y.2 [] acc := by
  have hl : n.server < ls.length := (List.getElem?_eq_some_iff.1 hy).1
  rw [wr, hn]
  simp only [if_pos (show n.kind = 1 ∧ n.server < ls.length from ⟨hk, hl⟩), hy]
theorem fold_ge (f : Nat) (x : List Lg) (ls : List (List Lg × Nat)) (h : ∀ k acc, acc.length ≤ (wr f x k ls acc).length) : ∀ (ks : List Nat) (p : List Nat × List Lg), p.2.length ≤ (ks.foldl (wstep f x ls) p).2.length
  | [], _ => Nat.le_refl _
  | k :: ks, p => by rw [List.foldl_cons]; exact Nat.le_trans (h k p.2) (fold_ge f x ls h ks (wstep f x ls p k))
theorem wr_ge : ∀ (f : Nat) (x : List Lg) (i : Nat) (ls : List (List Lg × Nat)) (acc : List Lg), acc.length ≤ (wr f x i ls acc).length
  | 0, _, _, _, _ => Nat.le_refl _
  | f + 1, x, i, ls, acc => by
    cases hn : x[i]? with
    | none => rw [wr, hn]; exact Nat.le_refl _
    | some n =>
      by_cases hk : n.kind = 1 ∧ n.server < ls.length
      · rw [wr_sub f x i ls acc n ls[n.server] hn hk.1 (List.getElem?_eq_getElem hk.2)]
        exact wr_ge f _ _ _ _
      · rw [wr_node f x i ls acc n hn hk, List.length_append]
        have := fold_ge f x ls (fun k a => wr_ge f x k ls a) n.kids ([], acc)
        simp only at this
        omega
theorem fold_take (f : Nat) (x : List Lg) (ls : List (List Lg × Nat)) (ks : List Nat) (p : List Nat × List Lg) (j : Nat) : ((ks.take j).foldl (wstep f x ls) p).2.length ≤ (ks.foldl (wstep f x ls) p).2.length := by
  have h : ks.foldl (wstep f x ls) p = (ks.drop j).foldl (wstep f x ls) ((ks.take j).foldl (wstep f x ls) p) := by rw [← List.foldl_append, List.take_append_drop]
  rw [h]
  exact fold_ge f x ls (fun k a => wr_ge f x k ls a) _ _
theorem fold_len1 (f : Nat) (x : List Lg) (ls : List (List Lg × Nat)) : ∀ (ks : List Nat) (p : List Nat × List Lg), (ks.foldl (wstep f x ls) p).1.length = p.1.length + ks.length
  | [], _ => rfl
  | k :: ks, p => by rw [List.foldl_cons, fold_len1 f x ls ks]; simp [wstep]; omega
theorem fold_succ (f : Nat) (x : List Lg) (ls : List (List Lg × Nat)) (ks : List Nat) (p : List Nat × List Lg) (j : Nat) (h : j < ks.length) : (ks.take (j + 1)).foldl (wstep f x ls) p = wstep f x ls ((ks.take j).foldl (wstep f x ls) p) ks[j] := by
  rw [List.take_succ_eq_append_getElem h, List.foldl_append]; rfl
/-- the expressions that are read -/
structure Ins (w0 : World) (xs : Sl Ex) : Prop where
  rd : Rd w0 2 xs.a xs.l.length (xs.l.flatMap exC)
  each : ∀ y ∈ xs.l, y.ok w0 ∧ VX y.lg y.root
theorem ins_nil (w0 : World) : Ins w0 ⟨none, 0, []⟩ := ⟨Rd.nil _ _ _, by simp⟩
def WrPost (no : Nat → Prop) (w0 : World) (g : Nat) (acc : List Lg) (A : Option Addr) (w : World) (e : Ending) (w' : World) : Prop :=
  (∃ v, e = .returned v) ∧ ∃ (A' : Option Addr) (c' : Nat) (ys' : List Nd), Ot no w0 g acc A' c' ys' (acc.length - 1) w' ∧ Ft g A w w' A'
end Go.Proofs.YtlklmpcfhnbhgaaDoor
