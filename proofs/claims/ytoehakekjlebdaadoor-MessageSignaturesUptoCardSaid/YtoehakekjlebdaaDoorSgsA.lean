/- Signatures in a row of the call's own: appending; the library's Grow, Concat and Equal at signatures. -/
import Derived.Test.YtoehakekjlebdaaDoorEqSg
import Derived.Test.YtoehakekjlebdaaDoorMsgP
import Derived.Test.YtoehakekjlebdaaDoorValA
import Derived.Shelf.SlicesQ.Equal
import Derived.Shelf.Spec.SlicesGrow
import Derived.Laws.OwnMore
import Derived.Maps.AppendAt
namespace Go.Proofs.YtoehakekjlebdaaDoor
open Go.RowKit Go.Shelf

instance : Inhabited Sg := ⟨⟨0, 0, 0, 0, [], []⟩⟩
theorem sgC_six (x : Sg) : (sgC x).length = 6 := rfl
theorem sgsC_one (l : List Sg) : ∀ u ∈ l.flatMap sgC, u.oneCell' = true := by
  intro u hu
  obtain ⟨r, _, hr⟩ := List.mem_flatMap.1 hu
  simp only [sgC, List.mem_cons, List.not_mem_nil, or_false] at hr
  rcases hr with rfl | rfl | rfl | rfl | rfl | rfl <;> rfl
theorem infoSgs : (Tryd.prog.info? 23).map (fun i => (i.zero, i.size, i.bytes)) = some (some (.agg #[.int .i64 0, .int .i64 0, .int .i64 0, .int .i64 0, .string ⟨#[]⟩, .string ⟨#[]⟩]), 6, 64) := by kernel_rfl
/-- signatures in a row of the call's own -/
def OwnSg (base : Nat) (w : World) (A : Option Addr) (c : Nat) (l : List Sg) : Prop := w.ownsRow base 23 6 (.slice A l.length c) l.length (l.flatMap sgC)
theorem OwnSg.below {base : Nat} {w w' : World} {A : Option Addr} {c : Nat} {l : List Sg} (h : OwnSg base w A c l) (hb : Below w.heap.size w w') : OwnSg base w' A c l := ownsRow_below h hb
theorem OwnSg.nil (base : Nat) (w : World) : OwnSg base w none 0 [] := World.ownsRow_nil _ _ _ _
theorem OwnSg.rd {base : Nat} {w : World} {A : Option Addr} {c : Nat} {l : List Sg} (h : OwnSg base w A c l) : Rd w 6 A l.length (l.flatMap sgC) := Rd.own h
/-- the slice does not lie in block k -/
def NotAt (A : Option Addr) (k : Nat) : Prop := ∀ a, A = some a → a.block ≠ k
/-- no block but the slice's own has been turned, and the new slice lies in the old block or in a new one -/
def Far (w : World) (A : Option Addr) (w' : World) (A' : Option Addr) : Prop := ∀ k, k < w.heap.size → NotAt A k → w'.heap[k]? = w.heap[k]? ∧ NotAt A' k
theorem OwnSg.notAt {base : Nat} {w : World} {A : Option Addr} {c : Nat} {l : List Sg} (h : OwnSg base w A c l) {k : Nat} (hk : w.heap.size ≤ k) : NotAt A k := fun a e => by
  subst e
  have := (h.lt a.block rfl).2
  omega
theorem run_app_nil {P : Program} {w : World} (base : Nat) (t ty e : TypeId) (i : TypeInfo) (size : Nat) (ht : P.underlying t = some (.slice e)) (hi : P.info? e = some i)
    (v : Value) (n : Nat) (xs : List Value) (hown : w.ownsRow base e size v n xs) (c : Nat) :
    (Builtin.append_ #[t, t] ty #[v, .slice none 0 c]).run P w = .ok v w := by
  rcases hown.2 with ⟨rfl, rfl⟩ | ⟨g, cap, cur, rfl, _, _, hnc, _⟩
  · simp [Builtin.append_, run_underlying ht, sizeOf, typeInfo, hi, Builtin.lenOf, Builtin.firstCells]
  · simp [Builtin.append_, run_underlying ht, sizeOf, typeInfo, hi, Builtin.lenOf, Builtin.firstCells, hnc, storeCells]
/-- whatever signatures are appended to a row of the call's own -/
theorem run_app_sg {w : World} (ty : TypeId) (base : Nat) {A : Option Addr} {c : Nat} {l : List Sg} (hown : OwnSg base w A c l) {B : Option Addr} (d : Nat) {l2 : List Sg} (hr : Rd w 6 B l2.length (l2.flatMap sgC)) (hn : l.length + l2.length ≤ 16777216) (hbase : base ≤ w.heap.size) :
    ∃ A' c' w', (Builtin.append_ #[27, 27] ty #[.slice A l.length c, .slice B l2.length d]).run Tryd.prog w = .ok (.slice A' (l.length + l2.length) c') w' ∧ OwnSg base w' A' c' (l ++ l2) ∧ Below base w w' ∧ Far w A w' A' := by
  obtain ⟨i0, hi, hz0, hz1, hz2⟩ := info_parts infoSgs
  have hF := flat_len sgC 6 sgC_six l2
  cases B with
  | none =>
    have hl0 : l2.length = 0 := by
      by_cases hp : 0 < l2.length
      · obtain ⟨b, o, e, _⟩ := hr.cells (by omega)
        simp at e
      · omega
    obtain rfl : l2 = [] := List.eq_nil_of_length_eq_zero hl0
    refine ⟨A, c, w, ?_, by rw [List.append_nil]; exact hown, Below.refl _ _, fun k _ hk => ⟨rfl, hk⟩⟩
    exact run_app_nil base _ ty 23 i0 6 Tryd.underlying27 hi _ _ _ hown d
  | some ad =>
    have hnews : ∀ j u, (l2.flatMap sgC)[j]? = some u → w.cell? (ad.add j) = some u := fun j u hu => by
      have hk := (List.getElem?_eq_some_iff.1 hu).1
      obtain ⟨b, o, e, hb, hc⟩ := hr.cells (by omega)
      simp only [Option.some.injEq] at e
      subst e
      rw [add_plain']
      exact hc j u hu
    obtain ⟨v', w', h1, h2, h3, _, h5⟩ := run_append_own_at (P := Tryd.prog) w base 27 ty 23 i0 _ 6 64 Tryd.underlying27 hi hz0 hz1 hz2 rfl (by decide) _ _ _ hown ad l2.length d (l2.flatMap sgC) hF hnews (sgsC_one l2) (by simp [maxLen]; omega) (by omega) hbase
    obtain ⟨A4, c4, hv4⟩ := ownsRow_form h2
    subst hv4
    refine ⟨A4, c4, w', h1, ?_, below_grown (Below.refl _ _) hbase h3 (fun g hg => (hown.lt g hg).1), fun k hk hn => ⟨h3.block k hk (fun e => ?_), fun a e => ?_⟩⟩
    rotate_left
    · cases A with
      | none => simp [Value.ownBlock] at e
      | some a =>
        have e2 : k = a.block := by simpa [Value.ownBlock] using e
        exact hn a rfl e2.symm
    · subst e
      rcases h5 with h5 | h5
      · cases A with
        | none => simp [Value.ownBlock] at h5
        | some b =>
          have e2 : a.block = b.block := by simpa [Value.ownBlock] using h5
          rw [e2]; exact hn b rfl
      · have e2 : a.block = w.heap.size := by simpa [Value.ownBlock] using h5
        omega
    unfold OwnSg
    rw [List.length_append, List.flatMap_append]
    exact h2
theorem wp_app_sg {w : World} {o : Oper} {a : Act} {K : Act → World → Prop} {Q : Exit → Act → World → Prop} (s x : Operand)
    (ho : o.op = .call { callee := .builtin .append, args := #[s, x], argTypes := #[27, 27] })
    (base : Nat) {A : Option Addr} {c n : Nat} {l : List Sg} (hown : OwnSg base w A c l) (hs : a.eval s = .slice A n c) (hnl : n = l.length) {B : Option Addr} {m d : Nat} {l2 : List Sg} (hr : Rd w 6 B l2.length (l2.flatMap sgC)) (hx : a.eval x = .slice B m d) (hm : m = l2.length) (hn : l.length + l2.length ≤ 16777216) (hbase : base ≤ w.heap.size)
    (h : ∀ A' c' w', OwnSg base w' A' c' (l ++ l2) → Below base w w' → Far w A w' A' → K (a.put o.dst (.slice A' (n + m) c')) w') : o.wp Tryd.prog a w K Q := by
  subst hm hnl
  obtain ⟨A', c', w', h1, h2, h3, h4⟩ := run_app_sg (w := w) o.type base hown d hr hn hbase
  unfold Oper.wp execOp
  simp only [ho, resolve, invoke, builtin, Sem.run_bind, Sem.run_pure, Result.andThen_ok, List.map_toArray, List.map_cons, List.map_nil, hs, hx, h1]
  exact h A' c' w' h2 h3 h4
theorem wpList_app_sg {w : World} {ops : Array Oper} {rest : List Oper} {o : Oper} {a : Act} {Q : Exit → Act → World → Prop} (hgd : o.guard = none) (s x : Operand)
    (ho : o.op = .call { callee := .builtin .append, args := #[s, x], argTypes := #[27, 27] })
    (base : Nat) {A : Option Addr} {c n : Nat} {l : List Sg} (hown : OwnSg base w A c l) (hs : a.eval s = .slice A n c) (hnl : n = l.length) {B : Option Addr} {m d : Nat} {l2 : List Sg} (hr : Rd w 6 B l2.length (l2.flatMap sgC)) (hx : a.eval x = .slice B m d) (hm : m = l2.length) (hn : l.length + l2.length ≤ 16777216) (hbase : base ≤ w.heap.size)
    (h : ∀ A' c' w', OwnSg base w' A' c' (l ++ l2) → Below base w w' → wpList Tryd.prog ops Q rest (a.put o.dst (.slice A' (n + m) c')) w') : wpList Tryd.prog ops Q (o :: rest) a w :=
  wpList_plain hgd fun _ hK => wp_app_sg s x ho base hown hs hnl hr hx hm hn hbase fun A' c' w' h1 h2 _ => hK _ _ (h A' c' w' h1 h2)
theorem step_app_sg {w : World} {ops : Array Oper} {o : Oper} {a : Act} {K : Act → World → Prop} {Q : Exit → Act → World → Prop} {E : Prop} (hgd : o.guard = none) (s x : Operand)
    (ho : o.op = .call { callee := .builtin .append, args := #[s, x], argTypes := #[27, 27] })
    (base : Nat) {A : Option Addr} {c n : Nat} {l : List Sg} (hown : OwnSg base w A c l) (hs : a.eval s = .slice A n c) (hnl : n = l.length) {B : Option Addr} {m d : Nat} {l2 : List Sg} (hr : Rd w 6 B l2.length (l2.flatMap sgC)) (hx : a.eval x = .slice B m d) (hm : m = l2.length) (hn : l.length + l2.length ≤ 16777216) (hbase : base ≤ w.heap.size)
    (h : ∀ A' c' w', OwnSg base w' A' c' (l ++ l2) → Below base w w' → Far w A w' A' → K (a.put o.dst (.slice A' (n + m) c')) w') : if Region.wanted o (yielded ops a.tmps) = true then Oper.wp Tryd.prog o a w K Q else E := by
  have hw : Region.wanted o (yielded ops a.tmps) = true := by simp [Region.wanted, hgd]
  rw [if_pos hw]
  exact wp_app_sg s x ho base hown hs hnl hr hx hm hn hbase h

/-! the library's functions -/
def renEq : Go.Shelf.Ren := ⟨fun | 8 => 13 | n => n, fun | 22 => 27 | 24 => 23 | 4 => 4 | 3 => 3 | 0 => 0 | n => n, fun n => n⟩
theorem laysEq : SlLaysQ.n8 Tryd.prog renEq := {
  mixed := by kernel_rfl
  f8 := ⟨ "slices.Equal[[]sederunt/api.Signed,sederunt/api.Signed]", by decide, Tryd.func13.trans (congrArg some (by kernel_rfl))⟩
  t0 := Tryd.underlying0
  a0 := Tryd.isAgg0
  z0 := Tryd.sizeOf0
  v0 := Tryd.zeroValue0
  t3 := Tryd.underlying3
  a3 := Tryd.isAgg3
  z3 := Tryd.sizeOf3
  v3 := Tryd.zeroValue3
  t4 := Tryd.underlying4
  a4 := Tryd.isAgg4
  z4 := Tryd.sizeOf4
  v4 := Tryd.zeroValue4
  t22 := Tryd.underlying27
  a22 := Tryd.isAgg27
  z22 := Tryd.sizeOf27
  v22 := Tryd.zeroValue27 }
def renGrow : Go.Shelf.Ren := ⟨fun | 4 => 60 | n => n, fun | 22 => 27 | 25 => 23 | 3 => 3 | 4 => 4 | 9 => 9 | 20 => 20 | 0 => 0 | n => n, fun n => n⟩
theorem laysGrow : Lays8.n4 Tryd.prog renGrow := {
  mixed := by kernel_rfl
  f4 := ⟨ "slices.Grow[[]sederunt/api.Signed,sederunt/api.Signed]", by decide, Tryd.func60.trans (congrArg some (by kernel_rfl))⟩
  t0 := Tryd.underlying0
  a0 := Tryd.isAgg0
  z0 := Tryd.sizeOf0
  v0 := Tryd.zeroValue0
  t3 := Tryd.underlying3
  a3 := Tryd.isAgg3
  z3 := Tryd.sizeOf3
  v3 := Tryd.zeroValue3
  t4 := Tryd.underlying4
  a4 := Tryd.isAgg4
  z4 := Tryd.sizeOf4
  v4 := Tryd.zeroValue4
  t9 := Tryd.underlying9
  a9 := Tryd.isAgg9
  z9 := Tryd.sizeOf9
  v9 := Tryd.zeroValue9
  t20 := Tryd.underlying20
  a20 := Tryd.isAgg20
  z20 := Tryd.sizeOf20
  v20 := Tryd.zeroValue20
  t22 := Tryd.underlying27
  a22 := Tryd.isAgg27
  z22 := Tryd.sizeOf27
  v22 := Tryd.zeroValue27 }
theorem allEq_dec : ∀ (l1 l2 : List Sg), Lib.allEq (fun x y => decide (x = y)) l1 l2 = decide (l1 = l2)
  | [], [] => rfl
  | [], _ :: _ => rfl
  | _ :: _, [] => rfl
  | x :: r, y :: s => by
    rw [Lib.allEq, allEq_dec r s, Bool.eq_iff_iff]
    simp
theorem neq_sg : NeqAt Tryd.prog 23 (fun x => .agg (sgC x).toArray) (fun x y => decide (x = y)) :=
  ⟨fun x y w => by rw [run_neq_struct]; have h := run_sg x y w; simp only [sgC]; rw [h]; rfl, GuardAt.agg (fun x => (sgC x).toArray) (by kernel_rfl)⟩
theorem flat_bang (l : List Sg) (j : Nat) (hj : j < l.length) (i : Nat) (v : Value) (hv : (sgC l[j]!)[i]? = some v) : (l.flatMap sgC)[j * 6 + i]? = some v := by
  have hi : i < 6 := by have := (List.getElem?_eq_some_iff.1 hv).1; rwa [sgC_six] at this
  rw [flat_get sgC 6 sgC_six l j hj i hi, ← getElem!_pos l j hj]
  exact hv
set_option maxRecDepth 100000 in
set_option maxHeartbeats 4000000 in
theorem slEqual_any (A : Option Addr) (c : Nat) (l1 : List Sg) (B : Option Addr) (d : Nat) (l2 : List Sg) (w : World) (h1 : Rd w 6 A l1.length (l1.flatMap sgC)) (h2 : Rd w 6 B l2.length (l2.flatMap sgC)) (n1 : l1.length ≤ 16777216) (n2 : l2.length ≤ 16777216) :
    Calls Tryd.prog 13 #[.slice A l1.length c, .slice B l2.length d] w (RetBool (decide (l1 = l2)) w) := by
  have f1 := flat_len sgC 6 sgC_six l1
  have f2 := flat_len sgC 6 sgC_six l2
  by_cases hl : l1.length = l2.length
  · by_cases hp : 0 < l1.length
    · obtain ⟨b1, o1, rfl, _, c1⟩ := h1.cells (by omega)
      obtain ⟨b2, o2, rfl, _, c2⟩ := h2.cells (by omega)
      have hE := AnyQ.slices_Equal laysEq 6 Tryd.isAgg23 Tryd.sizeOf23 sgC sgC_six _ neq_sg b1 o1 l1.length c b2 o2 l2.length d l1 l2 w (Nat.le_refl _) (Nat.le_refl _) (by omega) (by omega)
        (fun j hj i v hv => by rw [Nat.add_assoc]; exact c1 _ v (flat_bang l1 j hj i v hv)) (fun j hj i v hv => by rw [Nat.add_assoc]; exact c2 _ v (flat_bang l2 j hj i v hv))
      refine hE.mono ?_
      rintro e w' ⟨rfl, q, rfl⟩
      rw [List.take_length, List.take_length, allEq_dec]
      exact ⟨rfl, bdN (Below.refl _ _) q⟩
    · obtain rfl : l1 = [] := List.eq_nil_of_length_eq_zero (by omega)
      obtain rfl : l2 = [] := List.eq_nil_of_length_eq_zero (by simpa using hl.symm)
      clear h1 h2 f1 f2
      go_enter Tryd.func13, Tryd.ntmps13
      try simp only [List.length_nil]
      go_wp2_with fail
      go_loop [13] (fun i => i = .int .i64 0) (fun _ => 0)
      case atStart => rfl
      case round =>
        subst hrel
        go_wp2_with fail
        go_ret
        exact ret_bl (by simp) (Below.refl _ _)
  · have hne : decide (l1 = l2) = false := decide_eq_false (fun h => hl (by rw [h]))
    rw [hne]
    have hne1 : ((l1.length : Int) == (l2.length : Int)) = false := by simp; omega
    clear h1 h2 f1 f2 hne
    go_enter Tryd.func13, Tryd.ntmps13
    go_wp2_with fail
    go_ret
    exact ret_bl rfl (Below.refl _ _)
/-- signatures in a row of the call's own come back -/
def RetSgs (l : List Sg) (w : World) (e : Ending) (w' : World) : Prop := ∃ A c, e = .returned (.slice A l.length c) ∧ OwnSg w.heap.size w' A c l ∧ Below w.heap.size w w'
theorem grow_sg (n : Nat) (w : World) (hn : n ≤ 33554432) : Calls Tryd.prog 60 #[.slice none 0 0, .int .i64 n] w (RetSgs [] w) := by
  obtain ⟨i0, hi, hz0, hz1, hz2⟩ := info_parts infoSgs
  simp only [] at hz0 hz1 hz2
  by_cases h0 : n = 0
  · subst h0
    refine (Any8.slices_Grow_room laysGrow none 0 0 0 w (by omega) (by omega) (by omega) (by omega)).mono ?_
    rintro e w' ⟨rfl, rfl⟩
    exact ⟨none, 0, rfl, OwnSg.nil _ _, Below.refl _ _⟩
  · refine (Any8.slices_Grow_grow laysGrow i0 _ hi hz0 (by omega) none 0 0 n [] w (by omega) (by omega) (by rw [hz2]; omega) (by omega) (by simp) (fun _ => rfl) (fun a h => by cases h)).mono ?_
    rintro e w' ⟨rfl, rfl⟩
    refine ⟨_, _, rfl, ?_, ((Below.refl _ _).drew).alloc (by simp) _⟩
    have hge := grownCap_ge w (0 + n) 0 23
    have hle := grownCap_le_maxLen w (0 + n) 0 23 (by simp [maxLen]; omega)
    have := World.ownsRow_made (base := w.heap.size) (e := 23) (size := 6) w.drew (([] : List Value).toArray ++ Builtin.zeroCells (Value.cells (.agg #[.int .i64 0, .int .i64 0, .int .i64 0, .int .i64 0, .string ⟨#[]⟩, .string ⟨#[]⟩])) (0 + n - 0) ++ Builtin.zeroCells (Value.cells (.agg #[.int .i64 0, .int .i64 0, .int .i64 0, .int .i64 0, .string ⟨#[]⟩, .string ⟨#[]⟩])) (grownCap w (0 + n) 0 23 - (0 + n))) (grownCap w (0 + n) 0 23) (Nat.le_refl _) hle
      (by rw [Array.size_append, Array.size_append, size_zeroCells, size_zeroCells, show (Value.cells (.agg #[.int .i64 0, .int .i64 0, .int .i64 0, .int .i64 0, .string ⟨#[]⟩, .string ⟨#[]⟩])).size = 6 from rfl]; rw [show ([] : List Value).toArray.size = 0 from rfl]; omega)
    exact this
end Go.Proofs.YtoehakekjlebdaaDoor
