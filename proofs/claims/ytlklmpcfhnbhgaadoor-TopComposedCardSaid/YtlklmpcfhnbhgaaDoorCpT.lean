/- The composition of the law is well formed. -/
import Derived.Test.YtlklmpcfhnbhgaaDoorCpR
namespace Go.Proofs.YtlklmpcfhnbhgaaDoor
open Go.RowKit

def vlb (n : Lg) (i : Nat) : Bool := (n.kind == 1 && n.need == 0 && n.kids.isEmpty && Nat.blt n.server 12) || (n.kind == 2 && n.server == 0 && Nat.ble n.need 60 && Nat.ble n.kids.length 60 && n.kids.all fun k => Nat.blt k i)
def vxb (l : List Lg) (r : Nat) : Bool := Nat.blt 0 l.length && Nat.ble l.length 60 && Nat.blt r l.length && (List.range l.length).all fun i => match l[i]? with | some n => vlb n i | none => false
def wokb : Nat → List Lg → Nat → List (List Lg × Nat) → Bool
  | 0, _, _, _ => false
  | f + 1, x, i, ls => match x[i]? with
    | none => false
    | some n => if n.kind = 1 ∧ n.server < ls.length then (match ls[n.server]? with | some y => wokb f y.1 y.2 [] | none => false) else n.kids.all fun k => wokb f x k ls
theorem vlb_ok {n : Lg} {i : Nat} (h : vlb n i = true) : n.vl i := by
  simp only [vlb, Bool.or_eq_true, Bool.and_eq_true, beq_iff_eq, List.isEmpty_iff, Nat.blt_eq, Nat.ble_eq, List.all_eq_true] at h
  rcases h with ⟨⟨⟨a, b⟩, c⟩, d⟩ | ⟨⟨⟨⟨a, b⟩, c⟩, d⟩, e⟩
  · exact .inl ⟨a, b, c, d⟩
  · exact .inr ⟨a, b, by omega, d, e⟩
theorem vxb_ok {l : List Lg} {r : Nat} (h : vxb l r = true) : VX l r := by
  simp only [vxb, Bool.and_eq_true, Nat.blt_eq, Nat.ble_eq, List.all_eq_true] at h
  obtain ⟨⟨⟨a, b⟩, c⟩, d⟩ := h
  refine ⟨a, b, c, fun i hi => ?_⟩
  have := d i (List.mem_range.2 hi)
  rw [List.getElem?_eq_getElem hi] at this
  exact vlb_ok this
theorem wokb_ok : ∀ (f : Nat) (x : List Lg) (i : Nat) (ls : List (List Lg × Nat)), wokb f x i ls = true → wok f x i ls
  | 0, _, _, _, h => by simp [wokb] at h
  | f + 1, x, i, ls, h => by
    unfold wokb at h
    unfold wok
    cases hx : x[i]? with
    | none => rw [hx] at h; simp at h
    | some n =>
      rw [hx] at h
      simp only at h
      refine ⟨n, rfl, ?_⟩
      by_cases hc : n.kind = 1 ∧ n.server < ls.length
      · rw [if_pos hc, List.getElem?_eq_getElem hc.2] at h
        exact .inl ⟨hc.1, _, List.getElem?_eq_getElem hc.2, wokb_ok f _ _ _ h⟩
      · rw [if_neg hc, List.all_eq_true] at h
        exact .inr ⟨hc, fun k hk => wokb_ok f _ _ _ (h k hk)⟩
def lst (j1 j2 j3 n1 n2 n3 : Nat) : List (List Lg × Nat) := [(th j1 (List.range n1), n1), (th j2 (List.range n2), n2), (th j3 (List.range n3), n3)]
def lstD (j1 j2 j3 n1 n2 n3 : Nat) : List (List Lg × Nat) := [(dual (th j1 (List.range n1)), n1), (dual (th j2 (List.range n2)), n2), (dual (th j3 (List.range n3)), n3)]
def okAll (a j1 j2 j3 n1 n2 n3 : Nat) : Bool :=
  vxb (comp a j1 j2 j3 n1 n2 n3) ((comp a j1 j2 j3 n1 n2 n3).length - 1) && wokb 4 (th a [0, 1, 2]) 3 (mvs 0 (lst j1 j2 j3 n1 n2 n3)) && wokb 4 (dual (th a [0, 1, 2])) 3 (mvs 0 (lstD j1 j2 j3 n1 n2 n3))
set_option maxRecDepth 1000000 in
theorem okAll_all : ((List.range 3).all fun a => (List.range 3).all fun j1 => (List.range 3).all fun j2 => (List.range 3).all fun j3 => (List.range 3).all fun n1 => (List.range 3).all fun n2 => (List.range 3).all fun n3 => okAll (a + 1) (j1 + 1) (j2 + 1) (j3 + 1) (n1 + 1) (n2 + 1) (n3 + 1)) = true := by kernel_rfl
theorem okAll_ok (a j1 j2 j3 n1 n2 n3 : Nat) (ha : in13 a) (h1 : in13 j1) (h2 : in13 j2) (h3 : in13 j3) (h4 : in13 n1) (h5 : in13 n2) (h6 : in13 n3) : okAll a j1 j2 j3 n1 n2 n3 = true := by
  have h := okAll_all
  simp only [List.all_eq_true] at h
  have key : ∀ {u : Nat}, in13 u → u - 1 ∈ List.range 3 ∧ u - 1 + 1 = u := fun {u} hu => by unfold in13 at hu; rw [List.mem_range]; omega
  have := h (a - 1) (key ha).1 (j1 - 1) (key h1).1 (j2 - 1) (key h2).1 (j3 - 1) (key h3).1 (n1 - 1) (key h4).1 (n2 - 1) (key h5).1 (n3 - 1) (key h6).1
  rwa [(key ha).2, (key h1).2, (key h2).2, (key h3).2, (key h4).2, (key h5).2, (key h6).2] at this
theorem comp_vx (a j1 j2 j3 n1 n2 n3 : Nat) (ha : in13 a) (h1 : in13 j1) (h2 : in13 j2) (h3 : in13 j3) (h4 : in13 n1) (h5 : in13 n2) (h6 : in13 n3) :
    VX (comp a j1 j2 j3 n1 n2 n3) ((comp a j1 j2 j3 n1 n2 n3).length - 1) ∧ wok 4 (th a [0, 1, 2]) 3 (mvs 0 (lst j1 j2 j3 n1 n2 n3)) ∧ wok 4 (dual (th a [0, 1, 2])) 3 (mvs 0 (lstD j1 j2 j3 n1 n2 n3)) := by
  have h := okAll_ok a j1 j2 j3 n1 n2 n3 ha h1 h2 h3 h4 h5 h6
  simp only [okAll, Bool.and_eq_true] at h
  exact ⟨vxb_ok h.1.1, wokb_ok _ _ _ _ h.1.2, wokb_ok _ _ _ _ h.2⟩
theorem th_srv (a : Nat) : ∀ n ∈ th a [0, 1, 2], n.kind = 1 → n.server < 3 := by
  intro n hn hk
  simp only [th, List.map_cons, List.map_nil, List.cons_append, List.nil_append, List.mem_cons, List.not_mem_nil, or_false] at hn
  rcases hn with rfl | rfl | rfl | rfl
  · show (0 : Nat) < 3; decide
  · show (1 : Nat) < 3; decide
  · show (2 : Nat) < 3; decide
  · cases hk
theorem dth_srv (a : Nat) : ∀ n ∈ dual (th a [0, 1, 2]), n.kind = 1 → n.server < 3 := by
  intro n hn hk
  obtain ⟨m, hm, rfl⟩ := List.mem_map.1 hn
  by_cases h2 : m.kind = 2
  · rw [dualN_two m h2] at hk; cases hk
  · have e : dualN m = m := by unfold dualN; rw [if_neg h2]
    rw [e] at hk ⊢
    exact th_srv a m hm hk
/-- a row of the law as expressions to be composed -/
theorem Co2.ins {w wr : World} {A : Option Addr} {c : Nat} {q2 : Value} {xs1 xs2 : List Ex} (h : Co2 w (.slice A xs1.length c) xs1 q2 xs2 wr) (hv : ∀ y ∈ xs1, VX y.lg y.root) : Ins wr ⟨A, c, xs1⟩ := by
  obtain ⟨F, hF, _⟩ := h.foot
  exact ⟨Rd.own h.o1, fun y hy => ⟨hF.out.1 y hy, hv y hy⟩⟩
theorem prs1_vx (sz nd : Nat → Nat) (ys : List Ex) (h : ys.map Ex.pr = prs1 sz nd 3) : ∀ y ∈ ys, VX y.lg y.root := by
  intro y hy
  have h1 : y.pr ∈ prs1 sz nd 3 := by rw [← h]; exact List.mem_map.2 ⟨y, hy, rfl⟩
  obtain ⟨m, _, e⟩ := List.mem_map.1 h1
  have e1 : y.lg = th (jv sz nd m) (List.range (nv sz m)) := (congrArg Prod.fst e).symm
  have e2 : y.root = nv sz m := (congrArg Prod.snd e).symm
  have hn := nv_in sz m
  have hj := jv_in sz nd m
  unfold in13 at hn
  have h9 := VX_th (jv sz nd m) (List.range (nv sz m)) (by rw [List.length_range]; omega) (range_facts _ (by omega)).1 (by omega)
  rw [List.length_range] at h9
  rw [e1, e2]; exact h9
theorem prs2_vx (sz nd : Nat → Nat) (ys : List Ex) (h : ys.map Ex.pr = prs2 sz nd 3) : ∀ y ∈ ys, VX y.lg y.root := by
  intro y hy
  have h1 : y.pr ∈ prs2 sz nd 3 := by rw [← h]; exact List.mem_map.2 ⟨y, hy, rfl⟩
  obtain ⟨m, _, e⟩ := List.mem_map.1 h1
  have e1 : y.lg = dual (th (jv sz nd m) (List.range (nv sz m))) := (congrArg Prod.fst e).symm
  have e2 : y.root = nv sz m := (congrArg Prod.snd e).symm
  have hn := nv_in sz m
  have hj := jv_in sz nd m
  unfold in13 at hn
  have h9 := VX_th (jv sz nd m) (List.range (nv sz m)) (by rw [List.length_range]; omega) (range_facts _ (by omega)).1 (by omega)
  rw [List.length_range] at h9
  rw [e1, e2]; exact VX_dual _ _ h9
theorem odd_same (k : Nat) (sz nd : Nat → Nat) (h : oddTo k sz nd 3 = true) :
    dual (comp (1 + k % 3) (jv sz nd 0) (jv sz nd 1) (jv sz nd 2) (nv sz 0) (nv sz 1) (nv sz 2)) = comp (1 + k % 3) (jv sz nd 0) (jv sz nd 1) (jv sz nd 2) (nv sz 0) (nv sz 1) (nv sz 2) := by
  simp only [oddTo, oddN, Bool.and_eq_true, beq_iff_eq] at h
  obtain ⟨⟨⟨h0, a0, b0⟩, a1, b1⟩, a2, b2⟩ := h
  have key : ∀ m, nv sz m % 2 = 1 → nv sz m = 1 ∨ nv sz m = 3 := fun m hm => by have := nv_in sz m; unfold in13 at this; omega
  rw [h0, b0, b1, b2]
  exact comp_self _ _ _ (key 0 a0) (key 1 a1) (key 2 a2)
end Go.Proofs.YtlklmpcfhnbhgaaDoor
