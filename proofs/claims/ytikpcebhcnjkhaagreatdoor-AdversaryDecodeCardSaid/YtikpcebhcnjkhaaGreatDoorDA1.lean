/- The contracts of in, within, Has. -/
import Derived.Maps.AppendAt
import Derived.Laws.OwnMore
import Derived.Laws.BitsAllLaws
import Derived.Test.YtikpcebhcnjkhaaGreatDoorDVb
import Derived.Test.YtikpcebhcnjkhaaGreatDoorDPl
namespace Go.Proofs.YtikpcebhcnjkhaaGreatDoor
open Go.RowKit
set_option maxRecDepth 100000 in
theorem advIn_any (n a b : Int) (w : World) : Calls Tryz.prog 26 #[.int .i64 n, .int .i64 a, .int .i64 b] w (fun e w' => e = .returned (.bool (decide (a ≤ n) && decide (n ≤ b))) ∧ w = w') := by
 go_enter Tryz.func26, Tryz.ntmps26
 by_cases h1 : a ≤ n
 · by_cases h2 : n ≤ b
   · go_wp2_with fail
     go_ret
     exact ⟨by simp [h1, h2], rfl⟩
   · go_wp2_with fail
     go_ret
     exact ⟨by simp [h2], rfl⟩
 · go_wp2_with fail
   go_ret
   exact ⟨by simp; intro h; omega, rfl⟩
open Go.RowKit
section
variable {P : Program} {w : World}
theorem run_app_nil (base : Nat) (t ty e : TypeId) (i : TypeInfo) (size : Nat) (ht : P.underlying t = some (.slice e)) (hi : P.info? e = some i)
    (v : Value) (n : Nat) (xs : List Value) (hown : w.ownsRow base e size v n xs) (c : Nat) :
    (Builtin.append_ #[t, t] ty #[v, .slice none 0 c]).run P w = .ok v w := by
 rcases hown.2 with ⟨rfl, rfl⟩ | ⟨g, cap, cur, rfl, _, _, hnc, _⟩
 · simp [Builtin.append_, run_underlying ht, sizeOf, typeInfo, hi, Builtin.lenOf, Builtin.firstCells]
 · simp [Builtin.append_, run_underlying ht, sizeOf, typeInfo, hi, Builtin.lenOf, Builtin.firstCells, hnc, storeCells]
theorem run_app_rd (base : Nat) (t ty e : TypeId) (i : TypeInfo) (z : Value) (k bytes : Nat) (ht : P.underlying t = some (.slice e)) (hi : P.info? e = some i) (hz : i.zero = some z) (hsize : i.size = k) (hby : i.bytes = bytes) (hzs : z.cells.size = k) (hk : 0 < k)
    {A : Option Addr} {n c : Nat} {xs : List Value} (hown : w.ownsRow base e k (.slice A n c) n xs) {B : Option Addr} {m : Nat} (d : Nat) {ys : List Value} (hr : Rd w k B m ys) (h1 : ∀ u ∈ ys, u.oneCell' = true) (h63 : n + m ≤ maxLen) (hbytes : (n + m) * bytes ≤ 140737488355328) (hbase : base ≤ w.heap.size) :
    ∃ A' c' w', (Builtin.append_ #[t, t] ty #[.slice A n c, .slice B m d]).run P w = .ok (.slice A' (n + m) c') w' ∧ w'.ownsRow base e k (.slice A' (n + m) c') (n + m) (xs ++ ys) ∧ Below base w w' := by
 cases B with
 | none =>
  have hm : m = 0 := by
   rcases Nat.eq_zero_or_pos m with h | h
   · exact h
   · obtain ⟨b, o, e1, _⟩ := hr.cells (by rw [hr.len]; exact Nat.mul_pos h hk)
     cases e1
  subst hm
  have hys : ys = [] := List.eq_nil_of_length_eq_zero (by rw [hr.len]; simp)
  subst hys
  refine ⟨A, c, w, run_app_nil base t ty e i k ht hi _ _ _ hown d, by simpa using hown, Below.refl _ _⟩
 | some ad =>
  have hnews : ∀ j u, ys[j]? = some u → w.cell? (ad.add j) = some u := fun j u hu => by
   have hj : j < ys.length := (List.getElem?_eq_some_iff.1 hu).1
   obtain ⟨b, o, e1, _, hc⟩ := hr.cells (by omega)
   simp only [Option.some.injEq] at e1
   subst e1
   rw [add_plain']
   exact hc j u hu
  obtain ⟨v', w', g1, g2, g3, _, _⟩ := run_append_own_at (P := P) w base t ty e i z k bytes ht hi hz hsize hby hzs hk _ _ _ hown ad m d ys hr.len hnews h1 h63 hbytes hbase
  obtain ⟨A4, c4, hv4⟩ := ownsRow_form g2
  subst hv4
  exact ⟨A4, c4, w', g1, g2, below_grown (Below.refl _ _) hbase g3 (fun g hg => (hown.lt g hg).1)⟩
theorem wp_app_rd {o : Oper} {a : Act} {K : Act → World → Prop} {Q : Exit → Act → World → Prop} (s x : Operand) (t : TypeId)
    (ho : o.op = .call { callee := .builtin .append, args := #[s, x], argTypes := #[t, t] })
    (base : Nat) (e : TypeId) (i : TypeInfo) (z : Value) (k bytes : Nat) (ht : P.underlying t = some (.slice e)) (hi : P.info? e = some i) (hz : i.zero = some z) (hsize : i.size = k) (hby : i.bytes = bytes) (hzs : z.cells.size = k) (hk : 0 < k)
    {A : Option Addr} {n c : Nat} {xs : List Value} (hs : a.eval s = .slice A n c) (hown : w.ownsRow base e k (.slice A n c) n xs) {B : Option Addr} {m d : Nat} {ys : List Value} (hx : a.eval x = .slice B m d) (hr : Rd w k B m ys) (h1 : ∀ u ∈ ys, u.oneCell' = true) (h63 : n + m ≤ maxLen) (hbytes : (n + m) * bytes ≤ 140737488355328) (hbase : base ≤ w.heap.size)
    (h : ∀ A' c' w', w'.ownsRow base e k (.slice A' (n + m) c') (n + m) (xs ++ ys) → Below base w w' → K (a.put o.dst (.slice A' (n + m) c')) w') : o.wp P a w K Q := by
 obtain ⟨A', c', w', g1, g2, g3⟩ := run_app_rd (P := P) (w := w) base t o.type e i z k bytes ht hi hz hsize hby hzs hk hown d hr h1 h63 hbytes hbase
 unfold Oper.wp execOp
 simp only [ho, resolve, invoke, builtin, Sem.run_bind, Sem.run_pure, Result.andThen_ok, List.map_toArray, List.map_cons, List.map_nil, hs, hx, g1]
 exact h A' c' w' g2 g3
theorem wpList_app_rd {ops : Array Oper} {rest : List Oper} {o : Oper} {a : Act} {Q : Exit → Act → World → Prop} (hgd : o.guard = none) (s x : Operand) (t : TypeId)
    (ho : o.op = .call { callee := .builtin .append, args := #[s, x], argTypes := #[t, t] })
    (base : Nat) (e : TypeId) (i : TypeInfo) (z : Value) (k bytes : Nat) (ht : P.underlying t = some (.slice e)) (hi : P.info? e = some i) (hz : i.zero = some z) (hsize : i.size = k) (hby : i.bytes = bytes) (hzs : z.cells.size = k) (hk : 0 < k)
    {A : Option Addr} {n c : Nat} {xs : List Value} (hs : a.eval s = .slice A n c) (hown : w.ownsRow base e k (.slice A n c) n xs) {B : Option Addr} {m d : Nat} {ys : List Value} (hx : a.eval x = .slice B m d) (hr : Rd w k B m ys) (h1 : ∀ u ∈ ys, u.oneCell' = true) (h63 : n + m ≤ maxLen) (hbytes : (n + m) * bytes ≤ 140737488355328) (hbase : base ≤ w.heap.size)
    (h : ∀ A' c' w', w'.ownsRow base e k (.slice A' (n + m) c') (n + m) (xs ++ ys) → Below base w w' → wpList P ops Q rest (a.put o.dst (.slice A' (n + m) c')) w') : wpList P ops Q (o :: rest) a w :=
 wpList_plain hgd fun _ hK => wp_app_rd s x t ho base e i z k bytes ht hi hz hsize hby hzs hk hs hown hx hr h1 h63 hbytes hbase fun A' c' w' h1 h2 => hK _ _ (h A' c' w' h1 h2)
theorem step_app_rd {ops : Array Oper} {o : Oper} {a : Act} {K : Act → World → Prop} {Q : Exit → Act → World → Prop} {E : Prop} (hgd : o.guard = none) (s x : Operand) (t : TypeId)
    (ho : o.op = .call { callee := .builtin .append, args := #[s, x], argTypes := #[t, t] })
    (base : Nat) (e : TypeId) (i : TypeInfo) (z : Value) (k bytes : Nat) (ht : P.underlying t = some (.slice e)) (hi : P.info? e = some i) (hz : i.zero = some z) (hsize : i.size = k) (hby : i.bytes = bytes) (hzs : z.cells.size = k) (hk : 0 < k)
    {A : Option Addr} {n c : Nat} {xs : List Value} (hs : a.eval s = .slice A n c) (hown : w.ownsRow base e k (.slice A n c) n xs) {B : Option Addr} {m d : Nat} {ys : List Value} (hx : a.eval x = .slice B m d) (hr : Rd w k B m ys) (h1 : ∀ u ∈ ys, u.oneCell' = true) (h63 : n + m ≤ maxLen) (hbytes : (n + m) * bytes ≤ 140737488355328) (hbase : base ≤ w.heap.size)
    (h : ∀ A' c' w', w'.ownsRow base e k (.slice A' (n + m) c') (n + m) (xs ++ ys) → Below base w w' → K (a.put o.dst (.slice A' (n + m) c')) w') : if Region.wanted o (yielded ops a.tmps) = true then Oper.wp P o a w K Q else E := by
 have hw : Region.wanted o (yielded ops a.tmps) = true := by simp [Region.wanted, hgd]
 rw [if_pos hw]
 exact wp_app_rd s x t ho base e i z k bytes ht hi hz hsize hby hzs hk hs hown hx hr h1 h63 hbytes hbase h
end
structure Elem (P : Program) (t e : TypeId) (k bytes : Nat) : Prop where
 under : P.underlying t = some (.slice e)
 row : ∃ i z, P.info? e = some i ∧ i.zero = some z ∧ i.size = k ∧ i.bytes = bytes ∧ z.cells.size = k
 pos : 0 < k
theorem Elem.of {P : Program} {t e : TypeId} {k bytes : Nat} {z : Value} (hu : P.underlying t = some (.slice e)) (h : (P.info? e).map (fun i => (i.zero, i.size, i.bytes)) = some (some z, k, bytes)) (hz : z.cells.size = k) (hk : 0 < k) : Elem P t e k bytes := by
 refine ⟨hu, ?_, hk⟩
 cases hi : P.info? e with
 | none => rw [hi] at h; simp at h
 | some i =>
  rw [hi] at h
  simp only [Option.map_some, Option.some.injEq, Prod.mk.injEq] at h
  exact ⟨i, z, rfl, h.1, h.2.1, h.2.2, hz⟩
section
variable {P : Program} {w : World}
theorem wpList_apr {ops : Array Oper} {rest : List Oper} {o : Oper} {a : Act} {Q : Exit → Act → World → Prop} {t e : TypeId} {k bytes : Nat} (hE : Elem P t e k bytes) (hgd : o.guard = none) (s x : Operand)
    (ho : o.op = .call { callee := .builtin .append, args := #[s, x], argTypes := #[t, t] }) (base : Nat)
    {A : Option Addr} {n c : Nat} {xs : List Value} (hs : a.eval s = .slice A n c) (hown : w.ownsRow base e k (.slice A n c) n xs) {B : Option Addr} {m d : Nat} {ys : List Value} (hx : a.eval x = .slice B m d) (hr : Rd w k B m ys) (h1 : ∀ u ∈ ys, u.oneCell' = true) (hbytes : (n + m) * bytes ≤ 140737488355328) (h63 : n + m ≤ 140737488355328) (hbase : base ≤ w.heap.size)
    (h : ∀ A' c' w', w'.ownsRow base e k (.slice A' (n + m) c') (n + m) (xs ++ ys) → Below base w w' → wpList P ops Q rest (a.put o.dst (.slice A' (n + m) c')) w') : wpList P ops Q (o :: rest) a w := by
 obtain ⟨i, z, hi, hz, hsz, hby, hzs⟩ := hE.row
 exact wpList_app_rd hgd s x t ho base e i z k bytes hE.under hi hz hsz hby hzs hE.pos hs hown hx hr h1 (by unfold maxLen; omega) hbytes hbase h
theorem step_apr {ops : Array Oper} {o : Oper} {a : Act} {K : Act → World → Prop} {Q : Exit → Act → World → Prop} {E : Prop} {t e : TypeId} {k bytes : Nat} (hE : Elem P t e k bytes) (hgd : o.guard = none) (s x : Operand)
    (ho : o.op = .call { callee := .builtin .append, args := #[s, x], argTypes := #[t, t] }) (base : Nat)
    {A : Option Addr} {n c : Nat} {xs : List Value} (hs : a.eval s = .slice A n c) (hown : w.ownsRow base e k (.slice A n c) n xs) {B : Option Addr} {m d : Nat} {ys : List Value} (hx : a.eval x = .slice B m d) (hr : Rd w k B m ys) (h1 : ∀ u ∈ ys, u.oneCell' = true) (hbytes : (n + m) * bytes ≤ 140737488355328) (h63 : n + m ≤ 140737488355328) (hbase : base ≤ w.heap.size)
    (h : ∀ A' c' w', w'.ownsRow base e k (.slice A' (n + m) c') (n + m) (xs ++ ys) → Below base w w' → K (a.put o.dst (.slice A' (n + m) c')) w') : if Region.wanted o (yielded ops a.tmps) = true then Oper.wp P o a w K Q else E := by
 obtain ⟨i, z, hi, hz, hsz, hby, hzs⟩ := hE.row
 exact step_app_rd hgd s x t ho base e i z k bytes hE.under hi hz hsz hby hzs hE.pos hs hown hx hr h1 (by unfold maxLen; omega) hbytes hbase h
end
theorem elemI : Elem Tryz.prog 33 3 1 8 := Elem.of Tryz.underlying33 infoI rfl (by decide)
theorem elemS : Elem Tryz.prog 30 9 1 16 := Elem.of Tryz.underlying30 infoS rfl (by decide)
theorem infoSet : (Tryz.prog.info? 26).map (fun i => (i.zero, i.size, i.bytes)) = some (some (.int .u16 0), 1, 2) := by kernel_rfl
theorem elemSet : Elem Tryz.prog 75 26 1 2 := Elem.of Tryz.underlying75 infoSet rfl (by decide)
theorem infoFlt : (Tryz.prog.info? 159).map (fun i => (i.zero, i.size, i.bytes)) = some (some (.agg #[.int .u16 0, .int .u16 0]), 2, 4) := by kernel_rfl
theorem elemFlt : Elem Tryz.prog 72 159 2 4 := Elem.of Tryz.underlying72 infoFlt rfl (by decide)
open Go.RowKit
theorem u16_wrap (e : Int) : ∃ v : Nat, v < 65536 ∧ IntKind.u16.wrap e = (v : Int) := by
 have h := wrap_within .u16 e
 simp only [IntKind.min, IntKind.max, IntKind.signed, IntKind.bits] at h
 exact ⟨(IntKind.u16.wrap e).toNat, by simp at h; omega, by simp at h; omega⟩
theorem and_u16 (a b : Int) : ∃ v : Nat, v < 65536 ∧ bits .and .u16 a b = (v : Int) := u16_wrap _
theorem bit_one (s k : Nat) (hs : s < 65536) : bits .and .u16 ((s : Int) / 2 ^ k) 1 = if s.testBit k then 1 else 0 := by
 have h1 : s / 2 ^ k < 65536 := Nat.lt_of_le_of_lt (Nat.div_le_self _ _) hs
 have h2 := u16_and_nat (s / 2 ^ k) 1 h1 (by decide)
 have h3 : ((s / 2 ^ k : Nat) : Int) = (s : Int) / 2 ^ k := by simp
 rw [h3] at h2
 rw [show ((1 : Nat) : Int) = 1 from rfl] at h2
 rw [h2, Nat.and_one_is_mod, Nat.testBit_eq_decide_div_mod_eq]
 by_cases h : s / 2 ^ k % 2 = 1
 · simp [h]
 · have : s / 2 ^ k % 2 = 0 := by omega
   simp [this]
def hasB (s : Nat) (i : Int) : Bool := decide (0 ≤ i) && decide (i < 16) && s.testBit i.toNat
theorem hasB_at (s k : Nat) (h : k < 16) : hasB s (k : Int) = s.testBit k := by
 have h1 : (0 : Int) ≤ (k : Int) := by omega
 have h2 : (k : Int) < 16 := by omega
 simp [hasB, h1, h2]
theorem hasB_no (s : Nat) (i : Int) (h : ¬ (0 ≤ i ∧ i < 16)) : hasB s i = false := by
 unfold hasB
 by_cases h0 : 0 ≤ i
 · have : ¬ i < 16 := fun h1 => h ⟨h0, h1⟩
   simp [this]
 · simp [h0]
def Same (v : Value) (w : World) (e : Ending) (w' : World) : Prop := e = .returned v ∧ w = w'
theorem same_out {P : Program} {k : FuncId} {args : Array Value} {v : Value} (h : ∀ w, Calls P k args w (Same v w)) : ∀ w, Calls P k args w (fun e w' => e = .returned v ∧ w' = w) := fun w => (h w).mono fun _ _ ⟨a, b⟩ => ⟨a, b.symm⟩
set_option maxRecDepth 100000 in
set_option maxHeartbeats 2000000 in
theorem has7_any (s : Nat) (i : Int) (w : World) (hs : s < 65536) : Calls Tryz.prog 30 #[.int .u16 (s : Int), .int .i64 i] w (Same (.bool (hasB s i)) w) := by
 by_cases h1 : 0 ≤ i
 · by_cases h2 : i < 16
   · obtain ⟨k, rfl⟩ := Int.eq_ofNat_of_zero_le h1
     have hk : k < 16 := by omega
     have HB := hD (hasB_at s k hk)
     have hb := bit_one s k hs
     cases ht : s.testBit k
     · rw [ht] at hb HB
       simp only [Bool.false_eq_true, if_false] at hb
       go_enter Tryz.func30, Tryz.ntmps30
       go_wp2_with fail
       go_ret
       exact ⟨ret_bool (by rw [HB.out]), rfl⟩
     · rw [ht] at hb HB
       simp only [if_true] at hb
       go_enter Tryz.func30, Tryz.ntmps30
       go_wp2_with fail
       go_ret
       exact ⟨ret_bool (by rw [HB.out]), rfl⟩
   · have HB := hD (hasB_no s i (fun h => h2 h.2))
     go_enter Tryz.func30, Tryz.ntmps30
     go_wp2_with fail
     go_ret
     exact ⟨ret_bool (by rw [HB.out]), rfl⟩
 · have HB := hD (hasB_no s i (fun h => h1 h.1))
   go_enter Tryz.func30, Tryz.ntmps30
   go_wp2_with fail
   go_ret
   exact ⟨ret_bool (by rw [HB.out]), rfl⟩
theorem has_at (s k : Nat) (w : World) (hs : s < 65536) (hk : k < 16) : Calls Tryz.prog 30 #[.int .u16 (s : Int), .int .i64 (k : Int)] w (Same (.bool (s.testBit k)) w) :=
 hasB_at s k hk ▸ has7_any s k w hs
def memTo (s j : Nat) : List Nat := (List.range j).filter s.testBit
theorem memTo_succ (s j : Nat) : memTo s (j + 1) = memTo s j ++ (if s.testBit j then [j] else []) := by
 unfold memTo
 rw [List.range_succ, List.filter_append]
 congr 1
 by_cases h : s.testBit j <;> simp [h]
theorem memTo_len (s j : Nat) : (memTo s j).length ≤ j := by
 have := List.length_filter_le s.testBit (List.range j)
 simpa [memTo] using this
def natC (l : List Nat) : List Value := l.map fun (n : Nat) => .int .i64 (n : Int)
theorem natC_len (l : List Nat) : (natC l).length = l.length := by simp [natC]
def RetNats (l : List Nat) (w : World) (e : Ending) (w' : World) : Prop := ∃ A c, e = .returned (.slice A l.length c) ∧ Rd w' 1 A l.length (natC l) ∧ Below w.heap.size w w'
set_option maxRecDepth 100000 in
set_option maxHeartbeats 2000000 in
theorem memRef_any (s : Nat) (w : World) (hs : s < 65536) : Calls Tryz.prog 37 #[.int .u16 (s : Int)] w (RetNats (memTo s 16) w) := by
 go_enter Tryz.func37, Tryz.ntmps37
 go_wp2_with fail
 go_loopw [3, 4] (fun o i wr => ∃ (j : Nat) (q : Value), i = .int .i64 j ∧ q = o ∧ j ≤ 16 ∧ wr.ownsRow w.heap.size 3 1 q (memTo s j).length (natC (memTo s j)) ∧ Below w.heap.size w wr) (fun _ i _ => 16 - (intOf i).toNat)
 case atStart => exact ⟨0, _, rfl, rfl, by omega, World.ownsRow_nil _ _ _ _, Below.refl _ _⟩
 case round =>
  obtain ⟨j, o, rfl, rfl, hj, how, hbl⟩ := hrel
  have HO := hD how
  have HB := hD hbl
  have hz := hbl.size
  have hlen := memTo_len s j
  have HM := hD (memTo_succ s j)
  clear hbl
  obtain ⟨A, c, rfl⟩ := ownsRow_form how
  clear how
  by_cases hlt : j < 16
  · have i0' : (0 : Int) ≤ (j : Int) := by omega
    have i1 : (j : Int) < 16 := by omega
    have hc := has_at s j wr hs hlt
    cases ht : s.testBit j
    · rw [ht] at hc HM
      have HN : Hid (memTo s (j + 1) = memTo s j) := hD (by rw [HM.out]; simp)
      have HC := hD hc
      clear hc HM ht
      go_wp2_with fail
      refine HC.out.mono ?_
      rintro e w2 ⟨rfl, rfl⟩
      go_wp2_with fail
      go_roundw
      case rel => exact ⟨j + 1, _, by go_num, rfl, by omega, by rw [HN.out]; exact HO.out, HB.out⟩
      case measure => simp [intOf]; omega
    · rw [ht] at hc HM
      have HN : Hid (memTo s (j + 1) = memTo s j ++ [j]) := hD (by rw [HM.out]; simp)
      have HC := hD hc
      clear hc HM ht
      go_wp2_with fail
      refine HC.out.mono ?_
      rintro e w2 ⟨rfl, rfl⟩
      go_wp2_with (at_builtin; refine wpList_apr elemI rfl _ _ rfl w.heap.size rfl (HO.out.alloc _) rfl (rd_new wr 1 1 [.int .i64 (j : Int)] _ (by rfl)) (by simp [Value.oneCell']) (by omega) (by omega) (by simp; omega) ?_)
      intro A' c' w4 hown hb4
      have HO4 : Hid (w4.ownsRow w.heap.size 3 1 (.slice A' ((memTo s j).length + 1) c') (memTo s (j + 1)).length (natC (memTo s (j + 1)))) := hD (by
       rw [HN.out, List.length_append]; unfold natC at *; rw [List.map_append]; exact hown)
      have HB4 := hD ((bon HB.out (below_new wr _)).trans hb4)
      clear hown hb4
      go_wp2_with fail
      go_roundw
      case rel => exact ⟨j + 1, _, by go_num, rfl, by omega, HO4.out, HB4.out⟩
      case measure => simp [intOf]; omega
  · obtain rfl : j = 16 := by omega
    go_wp2_with fail
    go_ret
    exact ⟨A, c, rfl, Rd.own HO.out, HB.out⟩
def szB (s : Nat) : Nat := (memTo s 16).length
set_option maxRecDepth 100000 in
set_option maxHeartbeats 2000000 in
theorem count_any (s : Nat) (w : World) (hs : s < 65536) : Calls Tryz.prog 121 #[.int .u16 (s : Int)] w (RetInt (szB s : Int) w) := by
 have HC := hD (memRef_any s w hs)
 go_enter Tryz.func121, Tryz.ntmps121
 go_wp2_with fail
 refine HC.out.mono ?_
 rintro e w2 ⟨A, c, rfl, hr, hb⟩
 have HB := hD hb
 clear hr hb
 go_wp2_with fail
 go_ret
 exact ⟨rfl, HB.out⟩
def inB (a b : Nat) : Bool := bits .andNot .u16 (a : Int) (b : Int) == 0
set_option maxRecDepth 100000 in
set_option maxHeartbeats 2000000 in
theorem within_any (a b : Nat) (w : World) : Calls Tryz.prog 120 #[.int .u16 (a : Int), .int .u16 (b : Int)] w (Same (.bool (inB a b)) w) := by
 go_enter Tryz.func120, Tryz.ntmps120
 go_wp2_with fail
 go_ret
 exact ⟨ret_bool (by unfold inB; first | rfl | simp), rfl⟩
set_option maxRecDepth 100000 in
set_option maxHeartbeats 2000000 in
theorem contains_any (a b : Nat) (w : World) : Calls Tryz.prog 123 #[.int .u16 (a : Int), .int .u16 (b : Int)] w (Same (.bool (inB b a)) w) := by
 go_enter Tryz.func123, Tryz.ntmps123
 go_wp2_with fail
 go_ret
 exact ⟨ret_bool (by unfold inB; first | rfl | simp), rfl⟩
open Go.RowKit
def Sm (w : World) (e : Ending) (w' : World) : Prop := (∃ A n c, e = .returned (.slice A n c)) ∧ Below w.heap.size w w'
def setC (l : List Nat) : List Value := l.map fun (n : Nat) => .int .u16 (n : Int)
theorem setC_len (l : List Nat) : (setC l).length = l.length := by simp [setC]
theorem setC_get (l : List Nat) (k : Nat) (h : k < l.length) : (setC l)[k]? = some (.int .u16 (l[k] : Int)) := by simp [setC, h]
theorem setC_set (l : List Nat) (k n : Nat) : (setC l).set k (.int .u16 (n : Int)) = setC (l.set k n) := by simp [setC, List.map_set]
theorem setC_snoc (l : List Nat) (n : Nat) : setC (l ++ [n]) = setC l ++ [.int .u16 (n : Int)] := by simp [setC]
theorem sets_at {w : World} {A : Option Addr} {l : List Nat} (h : Rd w 1 A l.length (setC l)) {k : Nat} (hk : k < l.length) : ∃ b o, A = some ⟨b, o, none⟩ ∧ b < w.heap.size ∧ ∀ w', Below w.heap.size w w' → w'.cell? ⟨b, o + k, none⟩ = some (.int .u16 (l[k] : Int)) := by
 obtain ⟨b, o, e, hb, hc⟩ := h.cells (by rw [setC_len]; omega)
 exact ⟨b, o, e, hb, fun w' hw => (hw.cell (p := ⟨b, o + k, none⟩) hb).trans (hc k _ (setC_get l k hk))⟩
theorem rdC_app {w : World} {base : Nat} {A : Option Addr} {c : Nat} {l : List Nat} {x : Nat} (h : w.ownsRow base 26 1 (.slice A (l.length + 1) c) (l.length + 1) (setC l ++ [.int .u16 (x : Int)])) : w.ownsRow base 26 1 (.slice A (l ++ [x]).length c) (l ++ [x]).length (setC (l ++ [x])) := by
 rw [setC_snoc, List.length_append]; exact h
def u16s (l : List Nat) : Prop := ∀ x ∈ l, x < 65536
theorem u16s_snoc {l : List Nat} {n : Nat} (h : u16s l) (hn : n < 65536) : u16s (l ++ [n]) := fun x hx => by
 rcases List.mem_append.1 hx with h1 | h1
 · exact h x h1
 · rw [List.mem_singleton] at h1; omega
theorem u16s_set {l : List Nat} {n : Nat} (h : u16s l) (k : Nat) (hn : n < 65536) : u16s (l.set k n) := fun x hx => by
 rcases List.mem_or_eq_of_mem_set hx with h1 | h1
 · exact h x h1
 · omega
def RetSets (b : Nat) (w : World) (e : Ending) (w' : World) : Prop := ∃ A c l, e = .returned (.slice A l.length c) ∧ u16s l ∧ l.length ≤ b ∧ Rd w' 1 A l.length (setC l) ∧ Below w.heap.size w w'
set_option maxRecDepth 100000 in
set_option maxHeartbeats 2000000 in
theorem size_any (s : Nat) (w : World) (hs : s < 65536) : Calls Tryz.prog 165 #[.int .u16 (s : Int)] w (Same (.int .i64 (szB s : Int)) w) := by
 go_enter Tryz.func165, Tryz.ntmps165
 go_wp2_with fail
 go_loop [3, 4] (fun n i => ∃ j : Nat, i = .int .i64 j ∧ n = .int .i64 ((memTo s j).length : Int) ∧ j ≤ 16) (fun _ i => 16 - (intOf i).toNat)
 case atStart => exact ⟨0, rfl, rfl, by omega⟩
 case round =>
  obtain ⟨j, rfl, rfl, hj⟩ := hrel
  have hl := memTo_len s j
  have HM := hD (memTo_succ s j)
  by_cases hlt : j < 16
  · have i0' : (0 : Int) ≤ (j : Int) := by omega
    have i1 : (j : Int) < 16 := by omega
    have hb := bit_one s j hs
    cases ht : s.testBit j
    · rw [ht] at hb HM
      simp only [Bool.false_eq_true, if_false] at hb
      have HN : Hid (memTo s (j + 1) = memTo s j) := hD (by rw [HM.out]; simp)
      clear HM ht
      go_wp2_with fail
      go_round
      case rel => exact ⟨j + 1, by go_num, by rw [HN.out]; try first | rfl | simp, by omega⟩
      case measure => simp [intOf]; omega
    · rw [ht] at hb HM
      simp only [if_true] at hb
      have HN : Hid ((memTo s (j + 1)).length = (memTo s j).length + 1) := hD (by rw [HM.out]; simp)
      clear HM ht
      go_wp2_with fail
      go_round
      case rel => exact ⟨j + 1, by go_num, by rw [HN.out]; try first | rfl | go_num, by omega⟩
      case measure => simp [intOf]; omega
  · obtain rfl : j = 16 := by omega
    go_wp2_with fail
    go_ret
    exact ⟨ret_int (by rfl), rfl⟩
def befB (a b : Nat) : Bool := if szB a = szB b then decide (a < b) else decide (szB a < szB b)
set_option maxRecDepth 100000 in
set_option maxHeartbeats 2000000 in
theorem before_any (a b : Nat) (w : World) (ha : a < 65536) (hb : b < 65536) : Calls Tryz.prog 147 #[.int .u16 (a : Int), .int .u16 (b : Int)] w (Same (.bool (befB a b)) w) := by
 have HA := hD (size_any a w ha)
 have HB := hD (size_any b w hb)
 by_cases hq : szB a = szB b
 · have HF : Hid (befB a b = decide (a < b)) := hD (by unfold befB; rw [if_pos hq])
   have HQ := hD hq
   clear hq
   go_enter Tryz.func147, Tryz.ntmps147
   go_wp2_with fail
   refine HA.out.mono ?_
   rintro e w2 ⟨rfl, rfl⟩
   go_wp2_with fail
   refine HB.out.mono ?_
   rintro e w2 ⟨rfl, rfl⟩
   rw [HQ.out]
   go_wp2_with fail
   go_ret
   exact ⟨ret_bool (by rw [HF.out]; try first | rfl | simp), rfl⟩
 · have HF : Hid (befB a b = decide (szB a < szB b)) := hD (by unfold befB; rw [if_neg hq])
   have q1 : ((szB a : Int) != (szB b : Int)) = true := by rw [bne_iff_ne]; omega
   have q2 : (szB a == szB b) = false := by rw [beq_eq_false_iff_ne]; exact hq
   clear hq
   go_enter Tryz.func147, Tryz.ntmps147
   go_wp2_with fail
   refine HA.out.mono ?_
   rintro e w2 ⟨rfl, rfl⟩
   go_wp2_with fail
   refine HB.out.mono ?_
   rintro e w2 ⟨rfl, rfl⟩
   go_wp2_with fail
   refine HA.out.mono ?_
   rintro e w2 ⟨rfl, rfl⟩
   go_wp2_with fail
   refine HB.out.mono ?_
   rintro e w2 ⟨rfl, rfl⟩
   go_wp2_with fail
   go_ret
   exact ⟨ret_bool (by rw [HF.out]; try first | rfl | simp), rfl⟩
set_option maxRecDepth 100000 in
set_option maxHeartbeats 2000000 in
theorem choose_any (s : Nat) (k : Int) (w : World) (_hs : s < 65536) : Calls Tryz.prog 89 #[.int .u16 (s : Int), .int .i64 k] w (Sm w) := by
 go_enter Tryz.func89, Tryz.ntmps89
 go_wp2_with fail
 go_loopw [5, 6] (fun o i wr => ∃ (j : Nat) (q : Value) (n : Nat) (xs : List Value), i = .int .i64 j ∧ q = o ∧ j ≤ 65536 ∧ n ≤ j ∧ wr.ownsRow w.heap.size 26 1 q n xs ∧ Below w.heap.size w wr) (fun _ i _ => 65536 - (intOf i).toNat)
 case atStart => exact ⟨0, _, 0, [], rfl, rfl, by omega, by omega, World.ownsRow_nil _ _ _ _, Below.refl _ _⟩
 case round =>
  obtain ⟨j, o, n, xs, rfl, rfl, hj, hn, how, hbl⟩ := hrel
  have HO := hD how
  have HB := hD hbl
  have hz := hbl.size
  clear hbl
  obtain ⟨A, c, rfl⟩ := ownsRow_form how
  clear how
  by_cases hlt : j < 65536
  · have i0' : (0 : Int) ≤ (j : Int) := by omega
    have i1 : (j : Int) < 65536 := by omega
    have hc := within_any j s wr
    cases hb : inB j s
    · rw [hb] at hc
      have HC := hD hc
      clear hc hb
      go_wp2_with fail
      refine HC.out.mono ?_
      rintro e w2 ⟨rfl, rfl⟩
      go_wp2_with fail
      go_roundw
      case rel => exact ⟨j + 1, _, n, xs, by go_num, rfl, by omega, by omega, HO.out, HB.out⟩
      case measure => simp [intOf]; omega
    · rw [hb] at hc
      have HC := hD hc
      have HC2 := hD (count_any j wr hlt)
      clear hc hb
      go_wp2_with fail
      refine HC.out.mono ?_
      rintro e w2 ⟨rfl, rfl⟩
      go_wp2_with fail
      refine HC2.out.mono ?_
      rintro e w2 ⟨rfl, hb2⟩
      obtain ⟨m, hm⟩ : ∃ m, m = szB j := ⟨_, rfl⟩
      rw [← hm]
      clear hm
      have HO2 := hD (ownsRow_below HO.out hb2)
      have HB2 := hD (bon HB.out hb2)
      have hz2 := hb2.size
      clear hb2
      by_cases hq : (m : Int) = k
      · subst hq
        go_wp2_with (at_builtin; refine wpList_apr elemSet rfl _ _ rfl w.heap.size rfl (HO2.out.alloc _) rfl (rd_new w2 1 1 [.int .u16 (j : Int)] _ (by rfl)) (by simp [Value.oneCell']) (by omega) (by omega) (by simp; omega) ?_)
        intro A' c' w4 hown hb4
        have HO4 := hD hown
        have HB4 := hD ((bon HB2.out (below_new w2 _)).trans hb4)
        clear hown hb4
        go_wp2_with fail
        go_roundw
        case rel => exact ⟨j + 1, _, n + 1, _, by go_num, rfl, by omega, by omega, HO4.out, HB4.out⟩
        case measure => simp [intOf]; omega
      · have q1 : ((m : Int) == k) = false := by rw [beq_eq_false_iff_ne]; exact hq
        clear hq
        go_wp2_with fail
        go_roundw
        case rel => exact ⟨j + 1, _, n, xs, by go_num, rfl, by omega, by omega, HO2.out, HB2.out⟩
        case measure => simp [intOf]; omega
  · obtain rfl : j = 65536 := by omega
    go_wp2_with fail
    go_ret
    exact ⟨⟨A, n, c, rfl⟩, HB.out⟩
open Go.RowKit
set_option maxRecDepth 100000 in
set_option maxHeartbeats 4000000 in
theorem sorted_any (A0 : Option Addr) (c0 : Nat) (l : List Nat) (w : World) (hr : Rd w 1 A0 l.length (setC l)) (hu : u16s l) (hn : l.length ≤ 1000) : Calls Tryz.prog 122 #[.slice A0 l.length c0] w (RetSets l.length w) := by
 have HR := hD hr
 have HU := hD hu
 clear hr hu
 go_enter Tryz.func122, Tryz.ntmps122
 go_wp2_with fail
 go_loopw [3, 4] (fun o i wr => ∃ (j : Nat) (q : Value) (s : List Nat), i = .int .i64 j ∧ q = o ∧ j ≤ l.length ∧ s.length ≤ j ∧ u16s s ∧ wr.ownsRow w.heap.size 26 1 q s.length (setC s) ∧ Below w.heap.size w wr) (fun _ i _ => l.length - (intOf i).toNat)
 case atStart => exact ⟨0, _, [], rfl, rfl, by omega, by simp, by simp [u16s], World.ownsRow_nil _ _ _ _, Below.refl _ _⟩
 case round =>
  obtain ⟨j, o, s, rfl, rfl, hj, hsl, hus, how, hbl⟩ := hrel
  have HO := hD how
  have HB := hD hbl
  have HS := hD hus
  have hz := hbl.size
  clear hbl hus
  obtain ⟨A, c, rfl⟩ := ownsRow_form how
  clear how
  by_cases hlt : j < l.length
  · have i0' : (0 : Int) ≤ (j : Int) := by omega
    have i1 : (j : Int) < (l.length : Int) := by omega
    obtain ⟨b, off, rfl, hg, hcc⟩ := sets_at HR.out hlt
    have hx := HU.out _ (List.getElem_mem hlt)
    obtain ⟨x, hxe⟩ : ∃ x, x = l[j] := ⟨_, rfl⟩
    rw [← hxe] at hcc hx
    have HCC := hD hcc
    have hgr : b < wr.heap.size := by omega
    clear hcc hxe
    go_wp2_with fail
    go_loopw [5] (fun i w2 => ∃ k : Nat, i = .int .i64 k ∧ k ≤ s.length ∧ Below wr.heap.size wr w2) (fun i _ => s.length - (intOf i).toNat)
    case atStart => exact ⟨0, rfl, by omega, Below.refl _ _⟩
    case round =>
     rename World => w2
     obtain ⟨k, rfl, hk, hb2⟩ := hrel
     have HB2 := hD hb2
     have HO2 := hD (ownsRow_below HO.out hb2)
     have hz2 := hb2.size
     clear hb2
     have cx := HCC.out w2 (bon HB.out HB2.out)
     have k0' : (0 : Int) ≤ (k : Int) := by omega
     by_cases hkl : k < s.length
     · obtain ⟨g, rfl⟩ : ∃ g, A = some ⟨g, 0, none⟩ := by
         obtain ⟨g, cap, e, _⟩ := HO.out.form (by omega)
         injection e with e1
         exact ⟨g, e1⟩
       have k1 : (k : Int) < (s.length : Int) := by omega
       have ck := (HO2.out.cellAt k (by omega)).trans (setC_get s k hkl)
       have hy := HS.out _ (List.getElem_mem hkl)
       obtain ⟨y, hye⟩ : ∃ y, y = s[k] := ⟨_, rfl⟩
       rw [← hye] at ck hy
       have HY := hD hye
       clear hye
       have hlg := (HO2.out.lt g rfl).2
       have hbf := fun W => before_any y x W hy hx
       cases hbe : befB y x
       · rw [hbe] at hbf
         have HBf := hD (same_out hbf)
         clear hbf hbe
         go_wp2_with fail
         go_quiet ((go_at_call 147; exact Calls.quiet_of_same (HBf.out _)))
         by_cases hxy : y = x
         · have q1 : ((y : Int) == (x : Int)) = true := by rw [hxy]; simp
           go_wp2_with fail
           go_quiet (fail)
           go_wp2_with fail
           go_roundw
           case rel => exact ⟨j + 1, _, s, by go_num, rfl, by omega, by omega, HS.out, HO2.out, bdN (bon HB.out HB2.out) _⟩
           case measure => simp [intOf]; omega
         · have q1 : ((y : Int) == (x : Int)) = false := by rw [beq_eq_false_iff_ne]; omega
           go_wp2_with fail
           go_quiet (fail)
           have HO3 : Hid (∀ n, (w2.drewN n).ownsRow w.heap.size 26 1 (.slice (some ⟨g, 0, none⟩) s.length c) s.length (setC s)) := hD (fun n => ownsRow_below HO2.out (bdN (Below.refl _ _) n))
           go_wp2_with (at_builtin; refine wpList_apr elemSet rfl _ _ rfl w.heap.size rfl ((HO3.out _).alloc _) rfl (rd_new _ 1 1 [.int .u16 0] _ (by rfl)) (by simp [Value.oneCell']) (by omega) (by omega) (by simp; omega) ?_)
           intro A' c' w4 hown hb4
           have HO4 : Hid (w4.ownsRow w.heap.size 26 1 (.slice A' (s.length + 1) c') (s ++ [0]).length (setC (s ++ [0]))) := hD (by
            have := rdC_app (x := 0) hown
            rw [List.length_append] at this ⊢
            exact this)
           have HB4 := hD ((bon (bdN (bon HB.out HB2.out) _) (below_new _ _)).trans hb4)
           have hz4 := HB4.out.size
           obtain ⟨g4, rfl⟩ : ∃ g, A' = some ⟨g, 0, none⟩ := by
            obtain ⟨g, cap, e, _⟩ := hown.form (by omega)
            injection e with e1
            exact ⟨g, e1⟩
           clear hown hb4
           have HS4 := hD (u16s_snoc HS.out (show 0 < 65536 by decide))
           have i3 : (s.length : Int) + 1 - 1 = (s.length : Int) := by omega
           go_wp2_with fail
           go_loopw [6] (fun i w5 => ∃ (m : Nat) (s5 : List Nat), i = .int .i64 m ∧ k ≤ m ∧ m ≤ s.length ∧ s5.length = s.length + 1 ∧ u16s s5 ∧ w5.ownsRow w.heap.size 26 1 (.slice (some ⟨g4, 0, none⟩) (s.length + 1) c') (s.length + 1) (setC s5) ∧ Below w.heap.size w w5) (fun i _ => (intOf i).toNat)
           case atStart => exact ⟨s.length, s ++ [0], by first | rfl | (simp; omega), hk, by omega, by simp, HS4.out, by have := HO4.out; rw [List.length_append] at this; exact this, HB4.out⟩
           case round =>
            rename World => w5
            obtain ⟨m, s5, rfl, hkm, hmn, hl5, hu5, ho5, hb5⟩ := hrel
            have HO5 := hD ho5
            have HB5 := hD hb5
            have HS5 := hD hu5
            have HL5 := hD hl5
            have hz5 := hb5.size
            have hlg5 := (ho5.lt g4 rfl).2
            have m0' : (0 : Int) ≤ (m : Int) := by omega
            have m1 : (m : Int) < (s.length : Int) + 1 := by omega
            have fm := ho5.frozenAt m
            clear hu5 hb5
            by_cases hgt : k < m
            · have m2 : (0 : Int) ≤ (m : Int) - 1 := by omega
              have m3 : (m : Int) - 1 < (s.length : Int) + 1 := by omega
              have m4 : ((m : Int) - 1).toNat = m - 1 := by omega
              have cm := (ho5.cellAt (m - 1) (by omega)).trans (setC_get s5 (m - 1) (by omega))
              have cmm := (ho5.cellAt m (by omega)).trans (setC_get s5 m (by omega))
              have hv5 := HS5.out _ (List.getElem_mem (show m - 1 < s5.length by omega))
              obtain ⟨v, hve⟩ : ∃ v, v = s5[m - 1]'(by omega) := ⟨_, rfl⟩
              rw [← hve] at cm hv5
              have HST := hD (ho5.stored m (.int .u16 (v : Int)))
              clear ho5 hve
              go_wp2_with fail
              go_roundw
              case rel => exact ⟨m - 1, s5.set m v, by first | rfl | (simp; omega), by omega, by omega, by rw [List.length_set]; exact HL5.out, u16s_set HS5.out m hv5, by rw [← setC_set]; exact HST.out.1, below_grown HB5.out hz5 HST.out.2 (fun i hi => (HO5.out.lt i hi).1)⟩
              case measure => simp [intOf]; omega
            · obtain rfl : m = k := by omega
              have cx5 := HCC.out w5 HB5.out
              have hgb : b < w5.heap.size := by omega
              have cmm := (ho5.cellAt m (by omega)).trans (setC_get s5 m (by omega))
              have HST := hD (ho5.stored m (.int .u16 (x : Int)))
              clear ho5
              go_wp2_with fail
              go_roundw
              case rel => exact ⟨j + 1, _, s5.set m x, by go_num, by first | rfl | (rw [List.length_set, HL5.out]), by omega, by rw [List.length_set, HL5.out]; omega, u16s_set HS5.out m hx, by rw [List.length_set, HL5.out, ← setC_set]; exact HST.out.1, below_grown HB5.out hz5 HST.out.2 (fun i hi => (HO5.out.lt i hi).1)⟩
              case measure => simp [intOf]; omega
       · rw [hbe] at hbf
         have HBf := hD (same_out hbf)
         clear hbf hbe
         go_wp2_with fail
         go_quiet ((go_at_call 147; exact Calls.quiet_of_same (HBf.out _)))
         go_wp2_with fail
         go_roundw
         case rel => exact ⟨k + 1, by go_num, by omega, bdN HB2.out _⟩
         case measure => simp [intOf]; omega
     · obtain rfl : k = s.length := by omega
       go_wp2_with fail
       go_quiet (fail)
       go_wp2_with fail
       go_quiet (fail)
       have HO3 : Hid (∀ n, (w2.drewN n).ownsRow w.heap.size 26 1 (.slice A s.length c) s.length (setC s)) := hD (fun n => ownsRow_below HO2.out (bdN (Below.refl _ _) n))
       go_wp2_with (at_builtin; refine wpList_apr elemSet rfl _ _ rfl w.heap.size rfl ((HO3.out _).alloc _) rfl (rd_new _ 1 1 [.int .u16 0] _ (by rfl)) (by simp [Value.oneCell']) (by omega) (by omega) (by simp; omega) ?_)
       intro A' c' w4 hown hb4
       have HO4 : Hid (w4.ownsRow w.heap.size 26 1 (.slice A' (s.length + 1) c') (s ++ [0]).length (setC (s ++ [0]))) := hD (by
        have := rdC_app (x := 0) hown
        rw [List.length_append] at this ⊢
        exact this)
       have HB4 := hD ((bon (bdN (bon HB.out HB2.out) _) (below_new _ _)).trans hb4)
       have hz4 := HB4.out.size
       obtain ⟨g4, rfl⟩ : ∃ g, A' = some ⟨g, 0, none⟩ := by
        obtain ⟨g, cap, e, _⟩ := hown.form (by omega)
        injection e with e1
        exact ⟨g, e1⟩
       clear hown hb4
       have HS4 := hD (u16s_snoc HS.out (show 0 < 65536 by decide))
       have i3 : (s.length : Int) + 1 - 1 = (s.length : Int) := by omega
       go_wp2_with fail
       go_loopw [6] (fun i w5 => ∃ (m : Nat) (s5 : List Nat), i = .int .i64 m ∧ s.length ≤ m ∧ m ≤ s.length ∧ s5.length = s.length + 1 ∧ u16s s5 ∧ w5.ownsRow w.heap.size 26 1 (.slice (some ⟨g4, 0, none⟩) (s.length + 1) c') (s.length + 1) (setC s5) ∧ Below w.heap.size w w5) (fun i _ => (intOf i).toNat)
       case atStart => exact ⟨s.length, s ++ [0], by first | rfl | (simp; omega), hk, by omega, by simp, HS4.out, by have := HO4.out; rw [List.length_append] at this; exact this, HB4.out⟩
       case round =>
        rename World => w5
        obtain ⟨m, s5, rfl, hkm, hmn, hl5, hu5, ho5, hb5⟩ := hrel
        have HO5 := hD ho5
        have HB5 := hD hb5
        have HS5 := hD hu5
        have HL5 := hD hl5
        have hz5 := hb5.size
        have hlg5 := (ho5.lt g4 rfl).2
        have m0' : (0 : Int) ≤ (m : Int) := by omega
        have m1 : (m : Int) < (s.length : Int) + 1 := by omega
        have fm := ho5.frozenAt m
        clear hu5 hb5
        obtain rfl : m = s.length := by omega
        have cx5 := HCC.out w5 HB5.out
        have hgb : b < w5.heap.size := by omega
        have cmm := (ho5.cellAt s.length (by omega)).trans (setC_get s5 s.length (by omega))
        have HST := hD (ho5.stored s.length (.int .u16 (x : Int)))
        clear ho5
        go_wp2_with fail
        go_roundw
        case rel => exact ⟨j + 1, _, s5.set s.length x, by go_num, by first | rfl | (rw [List.length_set, HL5.out]), by omega, by rw [List.length_set, HL5.out]; omega, u16s_set HS5.out s.length hx, by rw [List.length_set, HL5.out, ← setC_set]; exact HST.out.1, below_grown HB5.out hz5 HST.out.2 (fun i hi => (HO5.out.lt i hi).1)⟩
        case measure => simp [intOf]; omega
  · obtain rfl : j = l.length := by omega
    go_wp2_with fail
    go_ret
    exact ⟨A, c, s, rfl, HS.out, hsl, Rd.own HO.out, HB.out⟩
open Go.RowKit
set_option maxRecDepth 100000 in
set_option maxHeartbeats 4000000 in
theorem least_any (A0 : Option Addr) (c0 : Nat) (l : List Nat) (w : World) (hr : Rd w 1 A0 l.length (setC l)) (hu : u16s l) (hn : l.length ≤ 1000) : Calls Tryz.prog 90 #[.slice A0 l.length c0] w (Sm w) := by
 have HSo := hD (sorted_any A0 c0 l w hr hu hn)
 clear hr hu
 go_enter Tryz.func90, Tryz.ntmps90
 go_wp2_with fail
 refine HSo.out.mono ?_
 rintro e w1 ⟨A, c, s, rfl, hus, hsl, hrs, hb1⟩
 have HS := hD hus
 have HR := hD hrs
 have HB1 := hD hb1
 have hs1 : s.length ≤ 1000 := by omega
 have hz1 := hb1.size
 clear hus hrs hb1 hsl hn
 go_wp2_with fail
 go_loopw [3, 5] (fun o i wr => ∃ (j : Nat) (q : Value) (n : Nat) (xs : List Value), i = .int .i64 j ∧ q = o ∧ j ≤ s.length ∧ n ≤ j ∧ wr.ownsRow w1.heap.size 26 1 q n xs ∧ Below w1.heap.size w1 wr) (fun _ i _ => s.length - (intOf i).toNat)
 case atStart => exact ⟨0, _, 0, [], rfl, rfl, by omega, by omega, World.ownsRow_nil _ _ _ _, Below.refl _ _⟩
 case round =>
  obtain ⟨j, o, n, xs, rfl, rfl, hj, hnj, how, hbl⟩ := hrel
  have HO := hD how
  have HB := hD hbl
  have hz := hbl.size
  clear hbl
  obtain ⟨A2, c2, rfl⟩ := ownsRow_form how
  clear how
  by_cases hlt : j < s.length
  · have i0' : (0 : Int) ≤ (j : Int) := by omega
    have i1 : (j : Int) < (s.length : Int) := by omega
    obtain ⟨b, off, rfl, hg, hcc⟩ := sets_at HR.out hlt
    obtain ⟨x, hxe⟩ : ∃ x, x = s[j] := ⟨_, rfl⟩
    rw [← hxe] at hcc
    have HCC := hD hcc
    have hgr : b < wr.heap.size := by omega
    clear hcc hxe
    go_wp2_with fail
    go_loopw [6, 7] (fun m i w2 => ∃ (k : Nat) (lb : Bool), i = .int .i64 k ∧ m = .bool lb ∧ k ≤ s.length ∧ Below wr.heap.size wr w2) (fun _ i _ => s.length - (intOf i).toNat)
    case atStart => exact ⟨0, true, rfl, rfl, by omega, Below.refl _ _⟩
    case round =>
     rename World => w2
     obtain ⟨k, lb, rfl, rfl, hk, hb2⟩ := hrel
     have HB2 := hD hb2
     have hz2 := hb2.size
     clear hb2
     have hgr2 : b < w2.heap.size := by omega
     have cx := HCC.out w2 (bon HB.out HB2.out)
     have k0' : (0 : Int) ≤ (k : Int) := by omega
     by_cases hkl : k < s.length
     · have k1 : (k : Int) < (s.length : Int) := by omega
       obtain ⟨b9, off9, e9, hg9, hcc9⟩ := sets_at HR.out hkl
       injection e9 with e9
       injection e9 with e9 e9'
       subst e9 e9'
       obtain ⟨y, hye⟩ : ∃ y, y = s[k] := ⟨_, rfl⟩
       have cy := hcc9 w2 (bon HB.out HB2.out)
       rw [← hye] at cy
       clear hye hcc9 hg9
       by_cases hjk : j = k
       · subst hjk
         have q1 : ((j : Int) != (j : Int)) = false := by simp
         go_wp2_with fail
         go_quiet (fail)
         go_wp2_with fail
         go_roundw
         case rel => exact ⟨j + 1, lb, by go_num, rfl, by omega, bdN HB2.out _⟩
         case measure => simp [intOf]; omega
       · have q1 : ((j : Int) != (k : Int)) = true := by rw [bne_iff_ne]; omega
         have q2 : (j == k) = false := by rw [beq_eq_false_iff_ne]; exact hjk
         have hc := fun W => contains_any x y W
         cases hbe : inB y x <;>
         · rw [hbe] at hc
           have HC := hD (same_out hc)
           clear hc hbe
           go_wp2_with fail
           go_quiet ((go_at_call 123; exact Calls.quiet_of_same (HC.out _)))
           go_wp2_with fail
           go_roundw
           case rel => exact ⟨k + 1, _, by go_num, rfl, by omega, bdN HB2.out _⟩
           case measure => simp [intOf]; omega
     · obtain rfl : k = s.length := by omega
       have HO2 := hD (ownsRow_below HO.out HB2.out)
       cases lb
       · go_wp2_with fail
         go_roundw
         case rel => exact ⟨j + 1, _, n, xs, by go_num, rfl, by omega, by omega, HO2.out, bon HB.out HB2.out⟩
         case measure => simp [intOf]; omega
       · go_wp2_with (at_builtin; refine wpList_apr elemSet rfl _ _ rfl w1.heap.size rfl (HO2.out.alloc _) rfl (rd_new w2 1 1 [.int .u16 (x : Int)] _ (by rfl)) (by simp [Value.oneCell']) (by omega) (by omega) (by simp; omega) ?_)
         intro A' c' w4 hown hb4
         have HO4 := hD hown
         have HB4 := hD ((bon (bon HB.out HB2.out) (below_new w2 _)).trans hb4)
         clear hown hb4
         go_wp2_with fail
         go_roundw
         case rel => exact ⟨j + 1, _, n + 1, _, by go_num, rfl, by omega, by omega, HO4.out, HB4.out⟩
         case measure => simp [intOf]; omega
  · obtain rfl : j = s.length := by omega
    go_wp2_with fail
    go_ret
    exact ⟨⟨A2, n, c2, rfl⟩, bon HB1.out HB.out⟩
end Go.Proofs.YtikpcebhcnjkhaaGreatDoor
