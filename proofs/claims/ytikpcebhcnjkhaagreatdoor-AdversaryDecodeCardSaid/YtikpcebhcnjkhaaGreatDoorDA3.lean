/- Append with what has grown; rows of some length. -/
import Derived.Test.YtikpcebhcnjkhaaGreatDoorDAdvK
import Derived.Test.YtikpcebhcnjkhaaGreatDoorDPl
namespace Go.Proofs.YtikpcebhcnjkhaaGreatDoor
open Go.RowKit
section
variable {P : Program} {w : World}
theorem run_app_rdg (base : Nat) (t ty e : TypeId) (i : TypeInfo) (z : Value) (k bytes : Nat) (ht : P.underlying t = some (.slice e)) (hi : P.info? e = some i) (hz : i.zero = some z) (hsize : i.size = k) (hby : i.bytes = bytes) (hzs : z.cells.size = k) (hk : 0 < k)
    {A : Option Addr} {n c : Nat} {xs : List Value} (hown : w.ownsRow base e k (.slice A n c) n xs) {B : Option Addr} {m : Nat} (d : Nat) {ys : List Value} (hr : Rd w k B m ys) (h1 : ∀ u ∈ ys, u.oneCell' = true) (h63 : n + m ≤ maxLen) (hbytes : (n + m) * bytes ≤ 140737488355328) (hbase : base ≤ w.heap.size) :
    ∃ A' c' w', (Builtin.append_ #[t, t] ty #[.slice A n c, .slice B m d]).run P w = .ok (.slice A' (n + m) c') w' ∧ w'.ownsRow base e k (.slice A' (n + m) c') (n + m) (xs ++ ys) ∧ w.grownBy w' (Value.slice A n c).ownBlock := by
 cases B with
 | none =>
  have hm : m = 0 := by
   rcases Nat.eq_zero_or_pos m with h | h
   · exact h
   · obtain ⟨b, o, e1, _⟩ := hr.cells (by rw [hr.len]; exact Nat.mul_pos h hk)
     cases e1
  subst hm
  have hys : ys = [] := List.eq_nil_of_length_eq_zero (by rw [hr.len]; simp)
  subst hys
  refine ⟨A, c, w, run_app_nil base t ty e i k ht hi _ _ _ hown d, by simpa using hown, grown_below (Below.refl _ _) _⟩
 | some ad =>
  have hnews : ∀ j u, ys[j]? = some u → w.cell? (ad.add j) = some u := fun j u hu => by
   have hj : j < ys.length := (List.getElem?_eq_some_iff.1 hu).1
   obtain ⟨b, o, e1, _, hc⟩ := hr.cells (by omega)
   simp only [Option.some.injEq] at e1
   subst e1
   rw [add_plain']
   exact hc j u hu
  obtain ⟨v', w', g1, g2, g3, _, _⟩ := run_append_own_at (P := P) w base t ty e i z k bytes ht hi hz hsize hby hzs hk _ _ _ hown ad m d ys hr.len hnews h1 h63 hbytes hbase
  obtain ⟨A4, c4, hv4⟩ := ownsRow_form g2
  subst hv4
  exact ⟨A4, c4, w', g1, g2, g3⟩
theorem wp_app_rdg {o : Oper} {a : Act} {K : Act → World → Prop} {Q : Exit → Act → World → Prop} (s x : Operand) (t : TypeId)
    (ho : o.op = .call { callee := .builtin .append, args := #[s, x], argTypes := #[t, t] })
    (base : Nat) (e : TypeId) (i : TypeInfo) (z : Value) (k bytes : Nat) (ht : P.underlying t = some (.slice e)) (hi : P.info? e = some i) (hz : i.zero = some z) (hsize : i.size = k) (hby : i.bytes = bytes) (hzs : z.cells.size = k) (hk : 0 < k)
    {A : Option Addr} {n c : Nat} {xs : List Value} (hs : a.eval s = .slice A n c) (hown : w.ownsRow base e k (.slice A n c) n xs) {B : Option Addr} {m d : Nat} {ys : List Value} (hx : a.eval x = .slice B m d) (hr : Rd w k B m ys) (h1 : ∀ u ∈ ys, u.oneCell' = true) (h63 : n + m ≤ maxLen) (hbytes : (n + m) * bytes ≤ 140737488355328) (hbase : base ≤ w.heap.size)
    (h : ∀ A' c' w', w'.ownsRow base e k (.slice A' (n + m) c') (n + m) (xs ++ ys) → w.grownBy w' (Value.slice A n c).ownBlock → K (a.put o.dst (.slice A' (n + m) c')) w') : o.wp P a w K Q := by
 obtain ⟨A', c', w', g1, g2, g3⟩ := run_app_rdg (P := P) (w := w) base t o.type e i z k bytes ht hi hz hsize hby hzs hk hown d hr h1 h63 hbytes hbase
 unfold Oper.wp execOp
 simp only [ho, resolve, invoke, builtin, Sem.run_bind, Sem.run_pure, Result.andThen_ok, List.map_toArray, List.map_cons, List.map_nil, hs, hx, g1]
 exact h A' c' w' g2 g3
theorem wpList_apg {ops : Array Oper} {rest : List Oper} {o : Oper} {a : Act} {Q : Exit → Act → World → Prop} {t e : TypeId} {k bytes : Nat} (hE : Elem P t e k bytes) (hgd : o.guard = none) (s x : Operand)
    (ho : o.op = .call { callee := .builtin .append, args := #[s, x], argTypes := #[t, t] }) (base : Nat)
    {A : Option Addr} {n c : Nat} {xs : List Value} (hs : a.eval s = .slice A n c) (hown : w.ownsRow base e k (.slice A n c) n xs) {B : Option Addr} {m d : Nat} {ys : List Value} (hx : a.eval x = .slice B m d) (hr : Rd w k B m ys) (h1 : ∀ u ∈ ys, u.oneCell' = true) (hbytes : (n + m) * bytes ≤ 140737488355328) (h63 : n + m ≤ 140737488355328) (hbase : base ≤ w.heap.size)
    (h : ∀ A' c' w', w'.ownsRow base e k (.slice A' (n + m) c') (n + m) (xs ++ ys) → w.grownBy w' (Value.slice A n c).ownBlock → wpList P ops Q rest (a.put o.dst (.slice A' (n + m) c')) w') : wpList P ops Q (o :: rest) a w := by
 obtain ⟨i, z, hi, hz, hsz, hby, hzs⟩ := hE.row
 exact wpList_plain hgd fun _ hK => wp_app_rdg s x t ho base e i z k bytes hE.under hi hz hsz hby hzs hE.pos hs hown hx hr h1 (by unfold maxLen; omega) hbytes hbase fun A' c' w' h1 h2 => hK _ _ (h A' c' w' h1 h2)
theorem step_apg {ops : Array Oper} {o : Oper} {a : Act} {K : Act → World → Prop} {Q : Exit → Act → World → Prop} {E : Prop} {t e : TypeId} {k bytes : Nat} (hE : Elem P t e k bytes) (hgd : o.guard = none) (s x : Operand)
    (ho : o.op = .call { callee := .builtin .append, args := #[s, x], argTypes := #[t, t] }) (base : Nat)
    {A : Option Addr} {n c : Nat} {xs : List Value} (hs : a.eval s = .slice A n c) (hown : w.ownsRow base e k (.slice A n c) n xs) {B : Option Addr} {m d : Nat} {ys : List Value} (hx : a.eval x = .slice B m d) (hr : Rd w k B m ys) (h1 : ∀ u ∈ ys, u.oneCell' = true) (hbytes : (n + m) * bytes ≤ 140737488355328) (h63 : n + m ≤ 140737488355328) (hbase : base ≤ w.heap.size)
    (h : ∀ A' c' w', w'.ownsRow base e k (.slice A' (n + m) c') (n + m) (xs ++ ys) → w.grownBy w' (Value.slice A n c).ownBlock → K (a.put o.dst (.slice A' (n + m) c')) w') : if Region.wanted o (yielded ops a.tmps) = true then Oper.wp P o a w K Q else E := by
 have hw : Region.wanted o (yielded ops a.tmps) = true := by simp [Region.wanted, hgd]
 rw [if_pos hw]
 obtain ⟨i, z, hi, hz, hsz, hby, hzs⟩ := hE.row
 exact wp_app_rdg s x t ho base e i z k bytes hE.under hi hz hsz hby hzs hE.pos hs hown hx hr h1 (by unfold maxLen; omega) hbytes hbase h
end
theorem infoCfg : (Tryz.prog.info? 77).map (fun i => (i.zero, i.size, i.bytes)) = some (some (.agg #[.string ⟨#[]⟩, .int .i64 0, .int .u16 0, .slice none 0 0, .slice none 0 0, .slice none 0 0]), 6, 104) := by kernel_rfl
theorem elemCfg : Elem Tryz.prog 32 77 6 104 := Elem.of Tryz.underlying32 infoCfg rfl (by decide)
theorem infoCl : (Tryz.prog.info? 80).map (fun i => (i.zero, i.size, i.bytes)) = some (some (.agg #[.string ⟨#[]⟩, .bool false, .slice none 0 0]), 3, 48) := by kernel_rfl
theorem elemCl : Elem Tryz.prog 34 80 3 48 := Elem.of Tryz.underlying34 infoCl rfl (by decide)
theorem own_apart {w : World} {base base' e e' k k' n n' : Nat} {v v' : Value} {xs xs' : List Value} (h : w.ownsRow base e k v n xs) (h' : w.ownsRow base' e' k' v' n' xs') (hne : e ≠ e') (g : Nat) (hg : v.ownBlock = some g) : v'.ownBlock ≠ some g := by
 intro hg'
 rcases h.2 with ⟨rfl, _⟩ | ⟨q, cap, cur, rfl, _, hq, _⟩
 · simp [Value.ownBlock] at hg
 · rcases h'.2 with ⟨rfl, _⟩ | ⟨q', cap', cur', rfl, _, hq', _⟩
   · simp [Value.ownBlock] at hg'
   · simp only [Value.ownBlock, Option.some.injEq] at hg hg'
     subst hg
     subst hg'
     rw [hq] at hq'
     simp only [Option.some.injEq, Obj.cells.injEq] at hq'
     exact hne hq'.2.1
theorem own_kept {w w' : World} {base e k n : Nat} {v : Value} {xs : List Value} {row : Option Nat} (h : w.ownsRow base e k v n xs) (hg : w.grownBy w' row) (hne : ∀ g, v.ownBlock = some g → row ≠ some g) : w'.ownsRow base e k v n xs :=
 h.kept hg (by
  cases hv : v.ownBlock with
  | none => exact .inl rfl
  | some g => exact .inr (fun e => hne g hv e.symm))
theorem own_far {w : World} {base e k n : Nat} {v : Value} {xs : List Value} (h : w.ownsRow base e k v n xs) (p : Addr) (u : Value) (hp : p.block < base) : (w.setCell p u).ownsRow base e k v n xs :=
 own_kept h (grown_set w p u) (fun g hg e => by have := (h.lt g hg).1; simp only [Option.some.injEq] at e; omega)
def RowN (b : Nat) (e k m : Nat) (q : Value) (W : World) : Prop := ∃ n xs, n ≤ m ∧ W.ownsRow b e k q n xs
theorem RowN.below {b e k m : Nat} {q : Value} {W W' : World} (h : RowN b e k m q W) (hb : Below W.heap.size W W') : RowN b e k m q W' := by
 obtain ⟨n, xs, h1, h2⟩ := h; exact ⟨n, xs, h1, ownsRow_below h2 hb⟩
theorem RowN.far {b e k m : Nat} {q : Value} {W : World} (h : RowN b e k m q W) (p : Addr) (u : Value) (hp : p.block < b) : RowN b e k m q (W.setCell p u) := by
 obtain ⟨n, xs, h1, h2⟩ := h; exact ⟨n, xs, h1, own_far h2 p u hp⟩
theorem RowN.kept {b e k m e' k' n' b' : Nat} {q q' : Value} {xs' : List Value} {W W' : World} (h : RowN b e k m q W) (h' : W.ownsRow b' e' k' q' n' xs') (hne : e ≠ e') (hg : W.grownBy W' q'.ownBlock) : RowN b e k m q W' := by
 obtain ⟨n, xs, h1, h2⟩ := h
 exact ⟨n, xs, h1, own_kept h2 hg (fun g hq => own_apart h2 h' hne g hq)⟩
open Go.RowKit
theorem world_gen {P : Program} {c : Code} {Q : Exit → Act → World → Prop} {a : Act} {W : World} {X : World → Prop} (hX : X W) (h : ∀ W, X W → Code.wp P c Q a W) : Code.wp P c Q a W := h W hX
theorem rd_far {w : World} {k n b o : Nat} {xs : List Value} (h : Rd w k (some ⟨b, o, none⟩) n xs) (p : Addr) (hp : b ≠ p.block) (v : Value) : Rd (w.setCell p v) k (some ⟨b, o, none⟩) n xs :=
 ⟨h.len, fun hj => by
  obtain ⟨b', o', e, hb, hc⟩ := h.cells hj
  simp only [Option.some.injEq, Addr.mk.injEq, and_true] at e
  obtain ⟨rfl, rfl⟩ := e
  exact ⟨b, o, rfl, by simpa using hb, fun j u hu => (World.cell?_setCell_other _ _ _ _ (fun e => hp (by rw [e]))).trans (hc j u hu)⟩⟩
theorem two_at {w : World} {b j : Nat} {s t : ByteArray} (h : Rd w 1 (some ⟨b, 0, none⟩) 2 [.string s, .string t]) (hj : j < 2) : ∃ nm, w.cell? ⟨b, j, none⟩ = some (.string nm) := by
 obtain ⟨b', o', e, _, hc⟩ := h.cells (by simp)
 simp only [Option.some.injEq, Addr.mk.injEq, and_true] at e
 obtain ⟨rfl, rfl⟩ := e
 have : j = 0 ∨ j = 1 := by omega
 rcases this with rfl | rfl
 · exact ⟨s, by simpa using hc 0 _ rfl⟩
 · exact ⟨t, by simpa using hc 1 _ rfl⟩
theorem two_lt {w : World} {b k n : Nat} {x : Value} {xs : List Value} (h : Rd w k (some ⟨b, 0, none⟩) n (x :: xs)) : b < w.heap.size := by
 obtain ⟨b', o', e, hb, _⟩ := h.cells (by simp)
 simp only [Option.some.injEq, Addr.mk.injEq, and_true] at e
 obtain ⟨rfl, _⟩ := e
 exact hb
def goB (j n : Nat) : Bool := decide ((j < n ∧ j < 2) ∨ j = 0)
structure Dr.ok (d : Dr) (w : World) : Prop where
 mode : d.mode < 256
 kind : d.kind < 256
 r1 : Rd w 1 d.read.a d.read.l.length (setC d.read.l)
 u1 : u16s d.read.l
 r2 : Rd w 1 d.write.a d.write.l.length (setC d.write.l)
 u2 : u16s d.write.l
 r3 : Rd w 2 d.faults.a d.faults.l.length (d.faults.l.flatMap fltC)
theorem Dr.ok.below {d : Dr} {w w' : World} (h : d.ok w) (hb : Below w.heap.size w w') : d.ok w' := ⟨h.mode, h.kind, h.r1.below hb, h.u1, h.r2.below hb, h.u2, h.r3.below hb⟩
theorem drC_len (d : Dr) : (drC d).length = 6 := rfl
structure Dep (w0 : World) (bx : List Value) (g : Nat) (S Q : Value) (u : Int) (j1 j2 j3 : Nat) (q1 q2 q3 : Value) (W : World) : Prop where
 low : Below w0.heap.size w0 W
 lt : w0.heap.size + 1 < g
 box : ∀ j v, bx[j]? = some v → W.cell? ⟨w0.heap.size, j, none⟩ = some v
 res : Vz W (w0.heap.size + 1) [.slice none 0 0, .slice none 0 0, .int .u16 0, .slice none 0 0, .slice none 0 0, .slice none 0 0]
 dv : Vz W g [S, Q, .int .u16 u, q1, q2, q3]
 o1 : RowN (g + 1) 77 6 j1 q1 W
 o2 : RowN (g + 1) 3 1 j2 q2 W
 o3 : RowN (g + 1) 80 3 j3 q3 W
section
variable {w0 W W2 W3 : World} {bx : List Value} {g : Nat} {S Q : Value} {u : Int} {j1 j2 j3 : Nat} {q1 q2 q3 : Value}
theorem Dep.below (h : Dep w0 bx g S Q u j1 j2 j3 q1 q2 q3 W) (hb : Below W.heap.size W W2) : Dep w0 bx g S Q u j1 j2 j3 q1 q2 q3 W2 :=
 ⟨bon h.low hb, h.lt, fun j v hj => (hb.cell (p := ⟨w0.heap.size, j, none⟩) (by have := h.lt; have := h.dv.lt; show w0.heap.size < W.heap.size; omega)).trans (h.box j v hj), h.res.below hb, h.dv.below hb, h.o1.below hb, h.o2.below hb, h.o3.below hb⟩
theorem Dep.wit (h : Dep w0 bx g S Q u j1 j2 j3 q1 q2 q3 W) (u' : Int) : Dep w0 bx g S Q u' j1 j2 j3 q1 q2 q3 (W.setCell ⟨g, 2, none⟩ (.int .u16 u')) :=
 ⟨h.low.setCell (by have := h.lt; show w0.heap.size ≤ g; omega) _, h.lt, fun j v hj => (World.cell?_setCell_other _ _ _ _ (set_ne _ _ (by have := h.lt; omega))).trans (h.box j v hj), h.res.grown (grown_set _ _ _) (by have := h.lt; simp; omega), (h.dv.set 2 _).eq rfl, h.o1.far _ _ (by show g < g + 1; omega), h.o2.far _ _ (by show g < g + 1; omega), h.o3.far _ _ (by show g < g + 1; omega)⟩
theorem Dep.row1 (h : Dep w0 bx g S Q u j1 j2 j3 q1 q2 q3 W) (hb : Below W.heap.size W W2) {n xs q1' n' xs'} (hq : W2.ownsRow (g + 1) 77 6 q1 n xs) (hown : W3.ownsRow (g + 1) 77 6 q1' n' xs') (hn : n' ≤ j1 + 1) (hg : W2.grownBy W3 q1.ownBlock) :
    Dep w0 bx g S Q u (j1 + 1) j2 j3 q1' q2 q3 (W3.setCell ⟨g, 3, none⟩ q1') := by
 have D := h.below hb
 have far : ∀ b, b < g + 1 → q1.ownBlock ≠ some b := fun b hb' e => by have := (hq.lt b e).1; omega
 have h0 := D.lt
 have hz := D.low.size
 have hg1 := D.dv.lt
 refine ⟨(below_grown D.low hz hg (fun b e => by have := (hq.lt b e).1; omega)).setCell (by show w0.heap.size ≤ g; omega) _, h0, fun j v hj => ?_, (D.res.grown hg (far _ (by omega))).grown (grown_set _ _ _) (by simp; omega), ((D.dv.grown hg (far _ (by omega))).set 3 _).eq rfl, ⟨n', xs', hn, own_far hown _ _ (by show g < g + 1; omega)⟩, ((D.o2.kept hq (by decide) hg).far _ _ (by show g < g + 1; omega)), ((D.o3.kept hq (by decide) hg).far _ _ (by show g < g + 1; omega))⟩
 exact (World.cell?_setCell_other _ _ _ _ (set_ne _ _ (by omega))).trans ((hg.cell_far ⟨w0.heap.size, j, none⟩ (by show w0.heap.size < W2.heap.size; omega) (by simpa using fun e => far _ (by omega) e.symm)).trans (D.box j v hj))
theorem Dep.row2 (h : Dep w0 bx g S Q u j1 j2 j3 q1 q2 q3 W) (hb : Below W.heap.size W W2) {n xs q2' n' xs'} (hq : W2.ownsRow (g + 1) 3 1 q2 n xs) (hown : W3.ownsRow (g + 1) 3 1 q2' n' xs') (hn : n' ≤ j2 + 1) (hg : W2.grownBy W3 q2.ownBlock) :
    Dep w0 bx g S Q u j1 (j2 + 1) j3 q1 q2' q3 (W3.setCell ⟨g, 4, none⟩ q2') := by
 have D := h.below hb
 have far : ∀ b, b < g + 1 → q2.ownBlock ≠ some b := fun b hb' e => by have := (hq.lt b e).1; omega
 have h0 := D.lt
 have hz := D.low.size
 have hg1 := D.dv.lt
 refine ⟨(below_grown D.low hz hg (fun b e => by have := (hq.lt b e).1; omega)).setCell (by show w0.heap.size ≤ g; omega) _, h0, fun j v hj => ?_, (D.res.grown hg (far _ (by omega))).grown (grown_set _ _ _) (by simp; omega), ((D.dv.grown hg (far _ (by omega))).set 4 _).eq rfl, ((D.o1.kept hq (by decide) hg).far _ _ (by show g < g + 1; omega)), ⟨n', xs', hn, own_far hown _ _ (by show g < g + 1; omega)⟩, ((D.o3.kept hq (by decide) hg).far _ _ (by show g < g + 1; omega))⟩
 exact (World.cell?_setCell_other _ _ _ _ (set_ne _ _ (by omega))).trans ((hg.cell_far ⟨w0.heap.size, j, none⟩ (by show w0.heap.size < W2.heap.size; omega) (by simpa using fun e => far _ (by omega) e.symm)).trans (D.box j v hj))
theorem Dep.row3 (h : Dep w0 bx g S Q u j1 j2 j3 q1 q2 q3 W) (hb : Below W.heap.size W W2) {n xs q3' n' xs'} (hq : W2.ownsRow (g + 1) 80 3 q3 n xs) (hown : W3.ownsRow (g + 1) 80 3 q3' n' xs') (hn : n' ≤ j3 + 1) (hg : W2.grownBy W3 q3.ownBlock) :
    Dep w0 bx g S Q u j1 j2 (j3 + 1) q1 q2 q3' (W3.setCell ⟨g, 5, none⟩ q3') := by
 have D := h.below hb
 have far : ∀ b, b < g + 1 → q3.ownBlock ≠ some b := fun b hb' e => by have := (hq.lt b e).1; omega
 have h0 := D.lt
 have hz := D.low.size
 have hg1 := D.dv.lt
 refine ⟨(below_grown D.low hz hg (fun b e => by have := (hq.lt b e).1; omega)).setCell (by show w0.heap.size ≤ g; omega) _, h0, fun j v hj => ?_, (D.res.grown hg (far _ (by omega))).grown (grown_set _ _ _) (by simp; omega), ((D.dv.grown hg (far _ (by omega))).set 5 _).eq rfl, ((D.o1.kept hq (by decide) hg).far _ _ (by show g < g + 1; omega)), ((D.o2.kept hq (by decide) hg).far _ _ (by show g < g + 1; omega)), ⟨n', xs', hn, own_far hown _ _ (by show g < g + 1; omega)⟩⟩
 exact (World.cell?_setCell_other _ _ _ _ (set_ne _ _ (by omega))).trans ((hg.cell_far ⟨w0.heap.size, j, none⟩ (by show w0.heap.size < W2.heap.size; omega) (by simpa using fun e => far _ (by omega) e.symm)).trans (D.box j v hj))
end
structure Pre (w0 : World) (bx : List Value) (W : World) : Prop where
 low : Below w0.heap.size w0 W
 lt : w0.heap.size + 1 < W.heap.size
 box : ∀ j v, bx[j]? = some v → W.cell? ⟨w0.heap.size, j, none⟩ = some v
 res : Vz W (w0.heap.size + 1) [.slice none 0 0, .slice none 0 0, .int .u16 0, .slice none 0 0, .slice none 0 0, .slice none 0 0]
theorem Pre.below {w0 W W2 : World} {bx : List Value} (h : Pre w0 bx W) (hb : Below W.heap.size W W2) : Pre w0 bx W2 :=
 ⟨bon h.low hb, Nat.lt_of_lt_of_le h.lt hb.size, fun j v hj => (hb.cell (p := ⟨w0.heap.size, j, none⟩) (by have := h.lt; show w0.heap.size < W.heap.size; omega)).trans (h.box j v hj), h.res.below hb⟩
theorem Pre.dep {w0 W : World} {bx : List Value} (h : Pre w0 bx W) {g : Nat} {S Q : Value} (hg : w0.heap.size + 1 < g) (hv : Vz W g [S, Q, .int .u16 0, .slice none 0 0, .slice none 0 0, .slice none 0 0]) : Dep w0 bx g S Q 0 0 0 0 (.slice none 0 0) (.slice none 0 0) (.slice none 0 0) W :=
 ⟨h.low, hg, h.box, h.res, hv, ⟨0, [], Nat.le_refl _, World.ownsRow_nil _ _ _ _⟩, ⟨0, [], Nat.le_refl _, World.ownsRow_nil _ _ _ _⟩, ⟨0, [], Nat.le_refl _, World.ownsRow_nil _ _ _ _⟩⟩
theorem Pre.set {w0 W : World} {bx : List Value} (h : Pre w0 bx W) {g : Nat} (hg : w0.heap.size + 1 < g) (i : Nat) (u : Value) : Pre w0 bx (W.setCell ⟨g, i, none⟩ u) :=
 ⟨h.low.setCell (by show w0.heap.size ≤ g; omega) u, by simpa using h.lt, fun j v hj => (World.cell?_setCell_other _ _ _ _ (set_ne _ _ (by omega))).trans (h.box j v hj), h.res.grown (grown_set _ _ _) (by simp; omega)⟩
theorem Pre.new (w : World) (bx : List Value) (TB : TypeId) : Pre w bx ((w.alloc (.cells bx.toArray TB)).alloc (.cells #[.slice none 0 0, .slice none 0 0, .int .u16 0, .slice none 0 0, .slice none 0 0, .slice none 0 0] 36)) where
 low := bon (below_new w _) (below_new _ _)
 lt := by simp
 box j v hj := by
  have h1 := (below_new (w.alloc (.cells bx.toArray TB)) (.cells #[.slice none 0 0, .slice none 0 0, .int .u16 0, .slice none 0 0, .slice none 0 0, .slice none 0 0] 36)).cell (p := ⟨w.heap.size, j, none⟩) (by simp)
  have h3 := cell_new w bx TB w.heap.size rfl j v hj
  rw [add_off, Nat.zero_add] at h3
  exact h1.trans h3
 res := by
  have h := Vz.new (w.alloc (.cells bx.toArray TB)) [.slice none 0 0, .slice none 0 0, .int .u16 0, .slice none 0 0, .slice none 0 0, .slice none 0 0] 36
  rw [World.size_alloc] at h
  exact h
def RetDep (n k : Nat) (w : World) (e : Ending) (w' : World) : Prop := (∃ (A B D E F : Option Addr) (u : Int) (c n2 c2 n3 c3 n4 c4 c5 : Nat), e = .returned (.agg #[.slice A n c, .slice B n2 c2, .int .u16 u, .slice D n3 c3, .slice E n4 c4, .slice F k c5])) ∧ Below w.heap.size w w'
end Go.Proofs.YtikpcebhcnjkhaaGreatDoor
