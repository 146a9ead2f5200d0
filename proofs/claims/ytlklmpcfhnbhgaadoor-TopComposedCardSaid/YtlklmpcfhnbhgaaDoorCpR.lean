/- Two lists of expressions that grow side by side. -/
import Derived.Test.YtlklmpcfhnbhgaaDoorCpQ
import Derived.Test.YtlklmpcfhnbhgaaDoorCpL
namespace Go.Proofs.YtlklmpcfhnbhgaaDoor
open Go.RowKit

/-- two lists of expressions that grow in rows of the call's own, behind the world w -/
structure Co2 (w : World) (q1 : Value) (xs1 : List Ex) (q2 : Value) (xs2 : List Ex) (wr : World) : Prop where
  o1 : wr.ownsRow w.heap.size 25 2 q1 xs1.length (xs1.flatMap exC)
  o2 : wr.ownsRow w.heap.size 25 2 q2 xs2.length (xs2.flatMap exC)
  low : Below w.heap.size w wr
  dis : ∀ b, q1.ownBlock = some b → q2.ownBlock ≠ some b
  foot : ∃ F, Foot F (fun W => (∀ y ∈ xs1, y.ok W) ∧ ∀ y ∈ xs2, y.ok W) wr ∧ ∀ i, F i → i < wr.heap.size ∧ q1.ownBlock ≠ some i ∧ q2.ownBlock ≠ some i
section
variable {w wr w2 w3 w4 : World} {q1 q2 v' : Value} {xs1 xs2 : List Ex} {x : Ex}
theorem Co2.below (h : Co2 w q1 xs1 q2 xs2 wr) (hb : Below wr.heap.size wr w2) : Co2 w q1 xs1 q2 xs2 w2 := by
  obtain ⟨F, hF, hi⟩ := h.foot
  exact ⟨ownsRow_below h.o1 hb, ownsRow_below h.o2 hb, bon h.low hb, h.dis, F, hF.on hb.size (fun i a => hb.block i (hi i a).1), fun i a => ⟨Nat.lt_of_lt_of_le (hi i a).1 hb.size, (hi i a).2⟩⟩
theorem Co2.symm (h : Co2 w q1 xs1 q2 xs2 wr) : Co2 w q2 xs2 q1 xs1 wr := by
  obtain ⟨F, hF, hi⟩ := h.foot
  exact ⟨h.o2, h.o1, h.low, fun b h2 h1 => h.dis b h1 h2, F, hF.imp (fun _ a => ⟨a.2, a.1⟩), fun i a => ⟨(hi i a).1, (hi i a).2.2, (hi i a).2.1⟩⟩
/-- one more in the first row -/
theorem Co2.step (h : Co2 w q1 xs1 q2 xs2 wr) (hx : ∃ Fx, Foot Fx x.ok wr ∧ ∀ i, Fx i → i < wr.heap.size ∧ q1.ownBlock ≠ some i ∧ q2.ownBlock ≠ some i) (h3 : Below wr.heap.size wr w3)
    (hown : w4.ownsRow w.heap.size 25 2 v' (xs1.length + 1) (xs1.flatMap exC ++ exC x)) (hgr : w3.grownBy w4 q1.ownBlock) (hat : v'.ownBlock = q1.ownBlock ∨ v'.ownBlock = some w3.heap.size) : Co2 w v' (xs1 ++ [x]) q2 xs2 w4 := by
  obtain ⟨F, hF, hi⟩ := h.foot
  obtain ⟨Fx, hFx, hix⟩ := hx
  have z3 := h3.size
  have z4 := hgr.size
  have keep : ∀ i, i < wr.heap.size → q1.ownBlock ≠ some i → w4.heap[i]? = wr.heap[i]? := fun i hi hne =>
    (hgr.block i (by omega) (fun e => hne e.symm)).trans (h3.block i hi)
  have fin : ∀ i, i < wr.heap.size → q1.ownBlock ≠ some i → v'.ownBlock ≠ some i := fun i h1 h2 e => by
    rcases hat with k | k
    · exact h2 (k.symm.trans e)
    · rw [k] at e; simp only [Option.some.injEq] at e; omega
  refine ⟨by simpa using hown, own_same h.o2 (fun b hb => keep b (h.o2.lt b hb).2 (fun e => h.dis b e hb)), below_grown (bon h.low h3) (bon h.low h3).size hgr (fun i hi => (h.o1.lt i hi).1), fun b hb hb2 => ?_, fun i => F i ∨ Fx i, ?_, ?_⟩
  · exact fin b (h.o2.lt b hb2).2 (fun e => h.dis b e hb2) hb
  · refine Foot.imp2 ((hF.on (by omega) (fun i a => keep i (hi i a).1 (hi i a).2.1)).mono (fun _ a => .inl a)) ((hFx.on (by omega) (fun i a => keep i (hix i a).1 (hix i a).2.1)).mono (fun _ a => .inr a)) (fun W a b => ⟨fun y hy => ?_, a.2⟩)
    rcases List.mem_append.1 hy with hy | hy
    · exact a.1 y hy
    · rw [List.mem_singleton] at hy; subst hy; exact b
  · rintro i (a | a)
    · exact ⟨by have := (hi i a).1; omega, fin i (hi i a).1 (hi i a).2.1, (hi i a).2.2⟩
    · exact ⟨by have := (hix i a).1; omega, fin i (hix i a).1 (hix i a).2.1, (hix i a).2.2⟩
/-- what is new is in neither row -/
theorem Co2.new (h : Co2 w q1 xs1 q2 xs2 wr) (_hb : Below wr.heap.size wr w2) (hn : New wr.heap.size x.ok w2) : ∃ Fx, Foot Fx x.ok w2 ∧ ∀ i, Fx i → i < w2.heap.size ∧ q1.ownBlock ≠ some i ∧ q2.ownBlock ≠ some i :=
  ⟨_, hn, fun i hi => ⟨hi.2, fun e => by have := (h.o1.lt i e).2; omega, fun e => by have := (h.o2.lt i e).2; omega⟩⟩
end
theorem VX_th (k : Nat) (l : List Nat) (hl : l.length ≤ 59) (hs : ∀ s ∈ l, s < 12) (hk : k ≤ 100000) : VX (th k l) l.length := by
  have e : (th k l).length = l.length + 1 := by simp [th]
  refine ⟨by omega, by omega, by omega, fun i hi => ?_⟩
  rcases Nat.lt_or_ge i l.length with h | h
  · have h0 : (th k l)[i]? = some (leaf l[i]) := by unfold th; rw [List.getElem?_append_left (by simpa using h), List.getElem?_map, List.getElem?_eq_getElem h]; rfl
    have : (th k l)[i] = leaf l[i] := Option.some.inj ((List.getElem?_eq_getElem hi).symm.trans h0)
    rw [this]
    exact .inl ⟨rfl, rfl, rfl, hs _ (List.getElem_mem h)⟩
  · have hi2 : i = l.length := by omega
    subst hi2
    have h0 : (th k l)[l.length]? = some ⟨2, 0, k, List.range l.length⟩ := by unfold th; rw [List.getElem?_append_right (by simp)]; simp
    have : (th k l)[l.length] = ⟨2, 0, k, List.range l.length⟩ := Option.some.inj ((List.getElem?_eq_getElem hi).symm.trans h0)
    rw [this]
    exact .inr ⟨rfl, rfl, hk, by simp; omega, fun q hq => by simpa using hq⟩
theorem VX_dual (l : List Lg) (r : Nat) (h : VX l r) : VX (dual l) r := by
  have e : (dual l).length = l.length := by simp [dual]
  refine ⟨by rw [e]; exact h.pos, by rw [e]; exact h.le, by rw [e]; exact h.root, fun i hi => ?_⟩
  have hi' : i < l.length := by rw [e] at hi; exact hi
  have e2 : (dual l)[i] = dualN l[i] := by simp [dual]
  rw [e2]
  rcases h.each i hi' with h1 | h2
  · rw [dualN_one _ h1.1]; exact .inl h1
  · rw [dualN_two _ h2.1]
    exact .inr ⟨rfl, h2.2.1, by show l[i].kids.length + 1 - l[i].need ≤ 100000; have := h2.2.2.2.1; omega, h2.2.2.2⟩
theorem rd_range {w : World} {b n : Nat} (h0 : w.cell? ⟨b, 0, none⟩ = some (.int .i64 0)) (h1 : w.cell? ⟨b, 1, none⟩ = some (.int .i64 1)) (h2 : w.cell? ⟨b, 2, none⟩ = some (.int .i64 2)) (hb : b < w.heap.size) (hn : n ≤ 3) :
    Rd w 1 (some ⟨b, 0, none⟩) (List.range n).length ((List.range n).flatMap nat1) := by
  refine ⟨flat_len nat1 1 nat1_len _, fun _ => ⟨b, 0, rfl, hb, fun j u hu => ?_⟩⟩
  have e : ∀ m : List Nat, m.flatMap nat1 = m.map (fun (x : Nat) => Value.int .i64 (x : Int)) := fun m => by
    induction m with
    | nil => rfl
    | cons x r ih => simp only [List.flatMap_cons, ih, nat1, List.map_cons, List.singleton_append]
  rw [e, List.getElem?_map] at hu
  have hj : j < n := by
    rcases Nat.lt_or_ge j n with h | h
    · exact h
    · rw [List.getElem?_eq_none (by simpa using h)] at hu; simp at hu
  rw [List.getElem?_range hj] at hu
  simp only [Option.map_some, Option.some.injEq] at hu
  subst hu
  rw [Nat.zero_add]
  match j, (show j < 3 by omega) with
  | 0, _ => exact h0
  | 1, _ => exact h1
  | 2, _ => exact h2
theorem range_facts (n : Nat) (hn : n ≤ 3) : (∀ s ∈ List.range n, s < 12) ∧ (List.range n).Nodup := ⟨fun s hs => by have := List.mem_range.1 hs; omega, List.nodup_range⟩
/-! the numbers of the law -/
def nv (sz : Nat → Nat) (m : Nat) : Nat := 1 + sz m % 3
def jv (sz nd : Nat → Nat) (m : Nat) : Nat := 1 + nd m % nv sz m
def oddN (sz nd : Nat → Nat) (m : Nat) : Bool := (nv sz m % 2 == 1) && (jv sz nd m == nv sz m / 2 + 1)
def oddTo (k : Nat) (sz nd : Nat → Nat) : Nat → Bool
  | 0 => k % 3 == 1
  | m + 1 => oddTo k sz nd m && oddN sz nd m
def prs1 (sz nd : Nat → Nat) (i : Nat) : List (List Lg × Nat) := (List.range i).map fun m => (th (jv sz nd m) (List.range (nv sz m)), nv sz m)
def prs2 (sz nd : Nat → Nat) (i : Nat) : List (List Lg × Nat) := (List.range i).map fun m => (dual (th (jv sz nd m) (List.range (nv sz m))), nv sz m)
theorem prs1_succ (sz nd : Nat → Nat) (i : Nat) : prs1 sz nd (i + 1) = prs1 sz nd i ++ [(th (jv sz nd i) (List.range (nv sz i)), nv sz i)] := by simp [prs1, List.range_succ]
theorem prs2_succ (sz nd : Nat → Nat) (i : Nat) : prs2 sz nd (i + 1) = prs2 sz nd i ++ [(dual (th (jv sz nd i) (List.range (nv sz i))), nv sz i)] := by simp [prs2, List.range_succ]
theorem nv_in (sz : Nat → Nat) (m : Nat) : in13 (nv sz m) := by unfold in13 nv; omega
theorem jv_in (sz nd : Nat → Nat) (m : Nat) : 1 ≤ jv sz nd m ∧ jv sz nd m ≤ nv sz m := by
  have : nd m % nv sz m < nv sz m := Nat.mod_lt _ (by unfold nv; omega)
  unfold jv; omega
/-! the composition of the law -/
theorem le_ble {u m : Nat} (h : Nat.ble u m = true) : u ≤ m := Nat.le_of_ble_eq_true h
theorem lt_ble {u : Nat} (h : Nat.ble u 60 = true) : u < 61 := by have := Nat.le_of_ble_eq_true h; omega
theorem comp_tot (_a j1 j2 j3 n1 n2 n3 : Nat) (h1 : in13 n1) (h2 : in13 n2) (h3 : in13 n3) : Nat.ble (tot [(th j1 (List.range n1), n1), (th j2 (List.range n2), n2), (th j3 (List.range n3), n3)]) 12 = true := by
  rcases h1 with rfl | rfl | rfl <;> rcases h2 with rfl | rfl | rfl <;> rcases h3 with rfl | rfl | rfl <;> kernel_rfl
theorem comp_size (a j1 j2 j3 n1 n2 n3 : Nat) (h1 : in13 n1) (h2 : in13 n2) (h3 : in13 n3) : Nat.ble (size2 (mvs 0 [(th j1 (List.range n1), n1), (th j2 (List.range n2), n2), (th j3 (List.range n3), n3)]) (th a [0, 1, 2], 3)) 60 = true := by
  rcases h1 with rfl | rfl | rfl <;> rcases h2 with rfl | rfl | rfl <;> rcases h3 with rfl | rfl | rfl <;> kernel_rfl
theorem comp_len (a j1 j2 j3 n1 n2 n3 : Nat) (h1 : in13 n1) (h2 : in13 n2) (h3 : in13 n3) : Nat.ble ((comp a j1 j2 j3 n1 n2 n3).length) 1000 = true := by
  rcases h1 with rfl | rfl | rfl <;> rcases h2 with rfl | rfl | rfl <;> rcases h3 with rfl | rfl | rfl <;> kernel_rfl
theorem comp_facts (a j1 j2 j3 n1 n2 n3 : Nat) (h1 : in13 n1) (h2 : in13 n2) (h3 : in13 n3) :
    tot [(th j1 (List.range n1), n1), (th j2 (List.range n2), n2), (th j3 (List.range n3), n3)] ≤ 12 ∧
    size2 (mvs 0 [(th j1 (List.range n1), n1), (th j2 (List.range n2), n2), (th j3 (List.range n3), n3)]) (th a [0, 1, 2], 3) < 61 ∧
    (comp a j1 j2 j3 n1 n2 n3).length ≤ 1000 := ⟨le_ble (comp_tot a j1 j2 j3 n1 n2 n3 h1 h2 h3), lt_ble (comp_size a j1 j2 j3 n1 n2 n3 h1 h2 h3), le_ble (comp_len a j1 j2 j3 n1 n2 n3 h1 h2 h3)⟩
theorem compD_tot (_a j1 j2 j3 n1 n2 n3 : Nat) (h1 : in13 n1) (h2 : in13 n2) (h3 : in13 n3) : Nat.ble (tot [(dual (th j1 (List.range n1)), n1), (dual (th j2 (List.range n2)), n2), (dual (th j3 (List.range n3)), n3)]) 12 = true := by
  rcases h1 with rfl | rfl | rfl <;> rcases h2 with rfl | rfl | rfl <;> rcases h3 with rfl | rfl | rfl <;> kernel_rfl
theorem compD_size (a j1 j2 j3 n1 n2 n3 : Nat) (h1 : in13 n1) (h2 : in13 n2) (h3 : in13 n3) : Nat.ble (size2 (mvs 0 [(dual (th j1 (List.range n1)), n1), (dual (th j2 (List.range n2)), n2), (dual (th j3 (List.range n3)), n3)]) (dual (th a [0, 1, 2]), 3)) 60 = true := by
  rcases h1 with rfl | rfl | rfl <;> rcases h2 with rfl | rfl | rfl <;> rcases h3 with rfl | rfl | rfl <;> kernel_rfl
theorem compD_len (a j1 j2 j3 n1 n2 n3 : Nat) (h1 : in13 n1) (h2 : in13 n2) (h3 : in13 n3) : Nat.ble ((compD a j1 j2 j3 n1 n2 n3).length) 1000 = true := by
  rcases h1 with rfl | rfl | rfl <;> rcases h2 with rfl | rfl | rfl <;> rcases h3 with rfl | rfl | rfl <;> kernel_rfl
theorem compD_facts (a j1 j2 j3 n1 n2 n3 : Nat) (h1 : in13 n1) (h2 : in13 n2) (h3 : in13 n3) :
    tot [(dual (th j1 (List.range n1)), n1), (dual (th j2 (List.range n2)), n2), (dual (th j3 (List.range n3)), n3)] ≤ 12 ∧
    size2 (mvs 0 [(dual (th j1 (List.range n1)), n1), (dual (th j2 (List.range n2)), n2), (dual (th j3 (List.range n3)), n3)]) (dual (th a [0, 1, 2]), 3) < 61 ∧
    (compD a j1 j2 j3 n1 n2 n3).length ≤ 1000 := ⟨le_ble (compD_tot a j1 j2 j3 n1 n2 n3 h1 h2 h3), lt_ble (compD_size a j1 j2 j3 n1 n2 n3 h1 h2 h3), le_ble (compD_len a j1 j2 j3 n1 n2 n3 h1 h2 h3)⟩
end Go.Proofs.YtlklmpcfhnbhgaaDoor
