/- The contracts of set.Count, set.choose, set.Subsets: a range over its function. -/
import Derived.Test.YtlklmpcfhnbhgaaDoorCpK
namespace Go.Proofs.YtlklmpcfhnbhgaaDoor
open Go.RowKit Go.Shelf
attribute [local go_sem] Oper.semAt_some

theorem count_any (s : Nat) (w : World) (hs : s < 65536) : Calls Tryd.prog 32 #[.int .u16 (s : Int)] w (fun e w' => (∃ v : Nat, v < 256 ∧ e = .returned (.int .i64 (v : Int))) ∧ Below w.heap.size w w') := by
  have H := Lib.hid (ones_any s w hs)
  clear hs
  go_enter Tryd.func32, Tryd.ntmps32
  go_wp2_with fail
  refine H.out.mono ?_
  rintro e w2 ⟨⟨v, hv, rfl⟩, b2⟩
  have HB := Lib.hid b2
  clear b2
  go_wp2_with fail
  go_ret
  exact ⟨⟨v, hv, rfl⟩, HB.out⟩
/-! the lowest bit -/
theorem low_pos : ∀ (n v : Nat), 0 < v → v < 2 ^ n → 0 < (v &&& (2 ^ n - v))
  | 0, v, h0, h1 => by simp at h1; omega
  | n + 1, v, h0, h1 => by
    have e2 : 2 ^ (n + 1) = 2 ^ n * 2 := Nat.pow_succ ..
    have hp : 0 < 2 ^ n := Nat.two_pow_pos n
    rcases Nat.mod_two_eq_zero_or_one v with h | h
    · have ih := low_pos n (v / 2) (by omega) (by omega)
      have hd : (v &&& (2 ^ (n + 1) - v)) / 2 = v / 2 &&& (2 ^ n - v / 2) := by
        rw [Nat.and_div_two, show (2 ^ (n + 1) - v) / 2 = 2 ^ n - v / 2 from by omega]
      omega
    · have hm : (v &&& (2 ^ (n + 1) - v)) % 2 = 1 := by
        have := Nat.and_mod_two_pow (a := v) (b := 2 ^ (n + 1) - v) (n := 1)
        rw [Nat.pow_one] at this
        rw [this, h, show (2 ^ (n + 1) - v) % 2 = 1 from by omega]; rfl
      omega
theorem pow16 (k : Nat) (h : k ≤ 16) : ∃ p : Nat, (2 : Int) ^ k = (p : Int) ∧ 0 < p ∧ p ≤ 65536 :=
  ⟨2 ^ k, by simp, Nat.two_pow_pos k, (Nat.pow_le_pow_right (by decide) h : 2 ^ k ≤ 2 ^ 16)⟩
/-! what the rounds keep: whatever is cells -/
def KC (W W' : World) : Prop := W.heap.size ≤ W'.heap.size ∧ ∀ (k : Nat) (o : Obj), W.heap[k]? = some o → o.isCells = true → W'.heap[k]? = some o
theorem KC.refl (W : World) : KC W W := ⟨Nat.le_refl _, fun _ _ h _ => h⟩
theorem KC.trans {A B C : World} (h : KC A B) (k : KC B C) : KC A C := ⟨Nat.le_trans h.1 k.1, fun i o hi hc => k.2 i o (h.2 i o hi hc) hc⟩
theorem KC.below {A B : World} (h : Below A.heap.size A B) : KC A B := ⟨h.size, fun k o hk _ => by
  have hlt : k < A.heap.size := (Array.getElem?_eq_some_iff.1 hk).1
  exact (h.block k hlt).trans hk⟩
theorem KC.putObj (W : World) (l : Nat) (o o' : Obj) (hl : W.heap[l]? = some o) (ho : o.isCells = false) : KC W (W.putObj l o') := ⟨(grownBy_putObj' W l o').size, fun k q hk hc => by
  by_cases e : k = l
  · subst e; rw [hl] at hk; cases hk; rw [ho] at hc; cases hc
  · exact ((grownBy_putObj' W l o').block k (Array.getElem?_eq_some_iff.1 hk).1 (by simpa using e)).trans hk⟩
theorem KC.cell {A B : World} (h : KC A B) {a : Addr} {v : Value} (hc : A.cell? a = some v) : B.cell? a = some v := by
  obtain ⟨o, ho, hk⟩ := cells_of_cell hc
  exact (World.cell?_of_block (a := a) (by rw [h.2 _ o ho hk, ho])).trans hc
theorem KC.rd {A B : World} {k n : Nat} {p : Option Addr} {xs : List Value} (h : KC A B) (hr : Rd A k p n xs) : Rd B k p n xs :=
  ⟨hr.len, fun hj => by
    obtain ⟨b, o, e, hl, hc⟩ := hr.cells hj
    exact ⟨b, o, e, Nat.lt_of_lt_of_le hl h.1, fun j u hu => h.cell (hc j u hu)⟩⟩
theorem KC.tb {A B : World} (h : KC A B) (ht : Tb A) : Tb B := ⟨Nat.lt_of_lt_of_le ht.1 h.1, fun j hj => by
  obtain ⟨v, hv, hc⟩ := ht.2 j hj
  exact ⟨v, hv, h.cell hc⟩⟩
theorem KC.vr {A B : World} (h : KC A B) {b : Nat} {cs : List Value} (hv : Vr A b cs) (h0 : 0 < cs.length) : Vr B b cs := by
  obtain ⟨o, ho, hk⟩ := cells_of_cell (hv.cells 0 _ (List.getElem?_eq_getElem h0))
  exact hv.same h.1 ((h.2 b o ho hk).trans ho.symm)
/-- the sets that come -/
abbrev U16 := { x : Nat // x < 65536 }
abbrev encU (x : U16) : Array Value := #[.int .u16 (x.1 : Int)]
theorem room_of_none {F : Fence} (hd : F.depth = none) (k : Nat) : F.room k := fun d h => by rw [hd] at h; cases h
theorem round_anyDepth {F : Fence} (hd : F.depth = none) {m m' : Nat} {P : Program} {l : Nat} {f : FuncId} {tmps : Array Value} {assign body : Code} {w : World} {R : Ending → World → Prop}
    (h : RoundIn F m P l f tmps assign body w R) : RoundIn F m' P l f tmps assign body w R := ⟨h.1, fun c cs _ => h.2 c cs (room_of_none hd _)⟩
theorem yield_anyDepth {F : Fence} (hd : F.depth = none) {m : Nat} (m' : Nat) {P : Program} {l : Nat} {args : Array Value} {W : World} {R : Ending → World → Prop} (h : YieldAt F m P l args W R) : YieldAt F m' P l args W R := by
  obtain ⟨fn, tmps, assign, body, hy, hR⟩ := h
  exact ⟨fn, tmps, assign, body, hy, round_anyDepth hd hR⟩
/-- behind a call that hands sets on -/
def ChPost (_l : Nat) (J Jx : List U16 → World → Prop) (m : Nat) (pre : List U16) (W : World) (e : Ending) (W' : World) : Prop :=
  (e = .returned (.bool true) ∧ ∃ q, J (pre ++ q) W' ∧ q.length ≤ m ∧ KC W W') ∨ (e = .returned (.bool false) ∧ ∃ q, Jx (pre ++ q) W')
set_option maxRecDepth 100000 in
set_option maxHeartbeats 4000000 in
theorem choose_in (n l N : Nat) (J Jx : List U16 → World → Prop) (hJ : ∀ pre W W', J pre W → Below W.heap.size W W' → J pre W')
    (hY : ∀ m pre x W, J pre W → pre.length < N → YieldAt Fence.wide m Tryd.prog l #[.int .u16 (x.1 : Int)] W fun e W' => (e = .returned (.bool true) ∧ J (pre ++ [x]) W' ∧ KC W W') ∨ (e = .returned (.bool false) ∧ Jx (pre ++ [x]) W'))
    (s k : Nat) (hs : s < 65536) (pre : List U16) (W : World) (h0 : J pre W) (ht : Tb W) (hN : pre.length + 65536 ≤ N) (hk : k ≤ 256) :
    CallsIn Fence.wide n Tryd.prog 33 #[.int .u16 (s : Int), .int .i64 (k : Int), .func (.yield l) #[] #[]] W (ChPost l J Jx 65536 pre W) := by
  have hdd : ∀ k : Nat, (Fence.wide.depth.isSome = true → 1 ≤ k) := fun k h => by cases h
  have HJ := Lib.hid hJ
  have HY := Lib.hid hY
  have H0 := Lib.hid h0
  have HM := Lib.hid (callsIn_wide (n := n - 1).2 (members_any s W hs ht))
  have k0 : decide ((k : Int) < 0) = false := by rw [decide_eq_false_iff_not]; omega
  clear hJ hY h0 ht
  refine callsIn_of_wp Tryd.func33 rfl trivial ?_ rfl
  simp only [Tryd.ntmps33, List.size_toArray, List.length_cons, List.length_nil, Nat.reduceAdd, Nat.reduceSub, Array.replicate_succ, Array.replicate_zero, List.push_toArray, List.append_toArray, List.nil_append, List.cons_append]
  gi_wp2_with fail
  refine ⟨trivial, hdd _, HM.out.mono ?_⟩
  rintro e w2 ⟨A, c, ls, rfl, hrd, hl16, hlx, hb2⟩
  by_cases hkl : k ≤ ls.length
  · have k1 : decide (ls.length < k) = false := by rw [decide_eq_false_iff_not]; omega
    obtain ⟨pk, hpk, pk0, pk1⟩ := pow16 k (by omega)
    have hpm1 : (2 : Int) ^ k % 4294967296 = (pk : Int) := by rw [hpk]; omega
    obtain ⟨pv, hpv⟩ : ∃ pv, pv = pk - 1 := ⟨_, rfl⟩
    have hpm2 : (pk : Int) - 1 = (pv : Int) := by omega
    have hpv2 : pv < 65536 := by omega
    clear hpv hpk
    have HRd := Lib.hid hrd
    have HLx := Lib.hid hlx
    have HB2 := Lib.hid hb2
    clear hrd hlx hb2
    gi_wp2
    simp only [hpm1]
    gi_loopw [8] (fun t wr => ∃ (v : Nat) (q : List U16), t = .int .u32 (v : Int) ∧ v < 2097152 ∧ q.length ≤ v ∧ q.length ≤ 65536 ∧ J (pre ++ q) wr ∧ KC w2 wr) (fun t _ => 65536 - (intOf t).toNat)
    case atStart => exact ⟨pv, [], rfl, by omega, by simp, by simp, by simpa using HJ.out _ _ _ H0.out HB2.out, KC.refl _⟩
    case round =>
      obtain ⟨v, q, rfl, hv, hqv, hq6, hjq, hkc⟩ := hrel
      have HJq := Lib.hid hjq
      have HK := Lib.hid hkc
      clear hjq hkc
      obtain ⟨p, hp, p0, p1⟩ := pow16 ls.length hl16
      have hpm : (2 : Int) ^ ls.length % 4294967296 = (p : Int) := by rw [hp]; omega
      by_cases hvp : v < p
      · have d1 : decide (v < p) = true := decide_eq_true hvp
        gi_wp2
        gi_loop [9, 34] (fun o i => ∃ (m u : Nat), i = .int .i64 m ∧ o = .int .u16 (u : Int) ∧ u < 65536 ∧ m ≤ ls.length) (fun _ i => ls.length - (intOf i).toNat)
        case atStart => exact ⟨0, 0, rfl, rfl, by decide, by omega⟩
        case round =>
          obtain ⟨m, u, rfl, rfl, hu, hm⟩ := hrel
          by_cases hml : m < ls.length
          · have m0' : (0 : Int) ≤ (m : Int) := by omega
            have m1 : (m : Int) < (ls.length : Int) := by omega
            obtain ⟨kb, ko, hKA, hkb, hkc⟩ := (HK.out.rd HRd.out).at nat1_len (by omega) hml
            have HKA := Lib.hid hKA
            have hkrun : ∀ w', Sem.run Tryd.prog (Instr.indexAt 29 (.slice A ls.length c) (.int .i64 m)) w' = .ok (Value.pointer (some ⟨kb, ko + m, none⟩)) w' := fun w' => by
              rw [HKA.out]; go_simp
            have x0 : wr.cell? ⟨kb, ko + m, none⟩ = some (.int .i64 (ls[m] : Int)) := by simpa using hkc wr (Below.refl _ _) 0 _ rfl
            obtain ⟨y, hy⟩ : ∃ y, y = ls[m] := ⟨_, rfl⟩
            rw [← hy] at x0
            have y0 : (0 : Int) ≤ (y : Int) := by omega
            clear hKA hkc hy
            gi_wp2
            · obtain ⟨u2, hu2, e2⟩ := or_u16 (u : Int) (IntKind.u16.wrap (2 ^ min y 16))
              go_round
              case rel => exact ⟨m + 1, u2, by go_num, by rw [e2], hu2, by omega⟩
              case measure => simp [intOf]; omega
            · go_round
              case rel => exact ⟨m + 1, u, by go_num, rfl, hu, by omega⟩
              case measure => simp [intOf]; omega
          · obtain rfl : m = ls.length := by omega
            obtain ⟨fn, tmps, assign, body, hy, hR⟩ := HY.out (n - 1) (pre ++ q) ⟨u, hu⟩ wr HJq.out (by rw [List.length_append]; omega)
            dsimp only at hy
            by_cases hv0 : v = 0
            · have e0 : ((v : Int) == 0) = true := by rw [hv0]; rfl
              clear hv0
              gi_wp2_with ((try refine ⟨hdd _, ?_⟩); refine hR.mono ?_; clear hR; rintro e W2 (⟨rfl, hJ2, hk2⟩ | ⟨rfl, hx2⟩))
              · go_ret
                exact .inl ⟨rfl, q ++ [⟨u, hu⟩], by rw [← List.append_assoc]; exact hJ2, by rw [List.length_append, List.length_singleton]; omega, ((KC.below HB2.out).trans HK.out).trans hk2⟩
              · go_ret
                exact .inr ⟨rfl, q ++ [⟨u, hu⟩], by rw [← List.append_assoc]; assumption⟩
            · have e0 : ((v : Int) == 0) = false := by rw [beq_eq_false_iff_ne]; omega
              obtain ⟨a, ha⟩ : ∃ a, a = v &&& (4294967296 - v) := ⟨_, rfl⟩
              have a0 : 0 < a := by rw [ha]; exact low_pos 32 v (by omega) (by omega)
              have a1 : a ≤ v := by rw [ha]; exact Nat.and_le_left
              have hlow : bits .and .u32 (v : Int) (-(v : Int) % 4294967296) = (a : Int) := by
                have h9 := u32_and_nat v (4294967296 - v) (by omega) (by omega)
                rw [← ha] at h9
                rw [← h9]
                congr 1
                omega
              have az : ((a : Int) == 0) = false := by rw [beq_eq_false_iff_ne]; omega
              obtain ⟨b, hb⟩ : ∃ b, b = v + a := ⟨_, rfl⟩
              have hup : (v : Int) + (a : Int) = (b : Int) := by omega
              have hbl : b < 2097152 := by omega
              have hvb : v < b := by omega
              obtain ⟨x, hx⟩ : ∃ x, x = v ^^^ b := ⟨_, rfl⟩
              have hx2 : x < 2097152 := by rw [hx]; exact Nat.xor_lt_two_pow (n := 21) (by omega) (by omega)
              have hxor : bits .xor .u32 (v : Int) (b : Int) = (x : Int) := by rw [hx]; exact u32_xor_nat v b (by omega) (by omega)
              obtain ⟨y, hy4⟩ : ∃ y, y = x / a / 4 := ⟨_, rfl⟩
              have hxa : x / a ≤ x := Nat.div_le_self _ _
              have hquo : (x : Int) / (a : Int) % 4294967296 / 4 = (y : Int) := by
                rw [hy4]
                have : (x : Int) / (a : Int) = ((x / a : Nat) : Int) := by simp
                rw [this]
                omega
              obtain ⟨z, hz⟩ : ∃ z, z = b ||| y := ⟨_, rfl⟩
              have hor : bits .or .u32 (b : Int) (y : Int) = (z : Int) := by rw [hz]; exact u32_or_nat b y (by omega) (by omega)
              have hzb : b ≤ z := by rw [hz]; exact Nat.left_le_or
              have hz2 : z < 2097152 := by rw [hz]; exact Nat.or_lt_two_pow (n := 21) (by omega) (by omega)
              clear ha hx hb hy4 hz hxa
              gi_wp2_with ((try refine ⟨hdd _, ?_⟩); refine hR.mono ?_; clear hR; rintro e W2 (⟨rfl, hJ2, hk2⟩ | ⟨rfl, hjx2⟩))
              · go_roundw
                case rel => exact ⟨z, q ++ [⟨u, hu⟩], rfl, hz2, by rw [List.length_append, List.length_singleton]; omega, by rw [List.length_append, List.length_singleton]; omega, by rw [← List.append_assoc]; exact hJ2, HK.out.trans hk2⟩
                case measure => simp [intOf]; omega
              · go_ret
                exact .inr ⟨rfl, q ++ [⟨u, hu⟩], by rw [← List.append_assoc]; assumption⟩
      · have d1 : decide (v < p) = false := decide_eq_false hvp
        gi_wp2
        go_ret
        exact .inl ⟨rfl, q, HJq.out, hq6, (KC.below HB2.out).trans HK.out⟩
  · have k1 : decide (ls.length < k) = true := by rw [decide_eq_true_eq]; omega
    gi_wp2
    go_ret
    exact .inl ⟨rfl, [], by simpa using HJ.out _ _ _ H0.out hb2, by simp, KC.below hb2⟩
set_option maxRecDepth 100000 in
set_option maxHeartbeats 4000000 in
theorem subs_stops (n Bs s : Nat) (w : World) (hB : Bs < w.heap.size) (hc : w.cell? ⟨Bs, 0, none⟩ = some (.int .u16 (s : Int))) (hs : s < 65536) (ht : Tb w) :
    SeqStopsK Fence.wide n Tryd.prog 31 #[.pointer (some ⟨Bs, 0, none⟩)] encU KC (fun _ => True) (fun _ => True) 33554432 w := fun l J Jx W hW hJ _ hY h0 => by
  have hdd : ∀ k : Nat, (Fence.wide.depth.isSome = true → 1 ≤ k) := fun k h => by cases h
  have HJ : Hid (∀ pre A B, J pre A → Below A.heap.size A B → J pre B) := Lib.hid (fun pre A B hj hb => hJ pre A B none hj (grown_below hb none) (fun r e => by cases e))
  have HY : Hid (∀ m pre (x : U16) W, J pre W → pre.length < 33554432 → YieldAt Fence.wide m Tryd.prog l #[.int .u16 (x.1 : Int)] W fun e W' => (e = .returned (.bool true) ∧ J (pre ++ [x]) W' ∧ KC W W') ∨ (e = .returned (.bool false) ∧ Jx (pre ++ [x]) W')) :=
    Lib.hid (fun m pre x W hj hl => yield_anyDepth rfl m (hY pre x W hj hl))
  have HC : Hid (∀ B, KC W B → B.cell? ⟨Bs, 0, none⟩ = some (.int .u16 (s : Int)) ∧ Tb B) := Lib.hid (fun B hb => ⟨hb.cell ((hW.cell (p := ⟨Bs, 0, none⟩) hB).trans hc), hb.tb (ht.below hW)⟩)
  have H0 := Lib.hid h0
  clear hY hJ h0 hW hB hc ht
  simp only [List.append_toArray, List.cons_append, List.nil_append]
  refine callsIn_of_wp Tryd.func31 rfl trivial ?_ rfl
  simp only [Tryd.ntmps31, List.size_toArray, List.length_cons, List.length_nil, Nat.reduceAdd, Nat.reduceSub, Array.replicate_succ, Array.replicate_zero, List.push_toArray, List.append_toArray, List.nil_append, List.cons_append]
  gi_wp2
  gi_loopw [3] (fun t wr => ∃ (k : Nat) (pre : List U16), t = .int .i64 k ∧ k ≤ 256 ∧ pre.length ≤ k * 65536 ∧ J pre wr ∧ KC W wr) (fun t _ => 256 - (intOf t).toNat)
  case atStart => exact ⟨0, [], rfl, by decide, by simp, H0.out, KC.refl _⟩
  case round =>
    obtain ⟨k, pre, rfl, hk, hpl, hjp, hkc⟩ := hrel
    have HP := Lib.hid hjp
    have HK := Lib.hid hkc
    obtain ⟨hcell, htb⟩ := HC.out wr hkc
    have HTb := Lib.hid htb
    clear hjp hkc htb
    have HCt := Lib.hid (callsIn_wide (n := n - 1).2 (count_any s wr hs))
    gi_wp2_with fail
    refine ⟨trivial, hdd _, HCt.out.mono ?_⟩
    rintro e w2 ⟨⟨v, hv, rfl⟩, b2⟩
    have hcell2 := (HC.out w2 (HK.out.trans (KC.below b2))).1
    by_cases hkv : k ≤ v
    · have d1 : decide (k ≤ v) = true := decide_eq_true hkv
      have HCh := Lib.hid (choose_in (n - 1) l 33554432 J Jx HJ.out HY.out s k hs pre w2 (HJ.out _ _ _ HP.out b2) (HTb.out.below b2) (by omega) hk)
      have HB2 := Lib.hid b2
      clear b2
      gi_wp2_with fail
      refine ⟨trivial, hdd _, HCh.out.mono ?_⟩
      rintro e w3 (⟨rfl, q, hjq, hql, hkq⟩ | ⟨rfl, q, hjx⟩)
      · gi_wp2
        go_roundw
        case rel => exact ⟨k + 1, pre ++ q, by go_num, by omega, by rw [List.length_append]; omega, hjq, (HK.out.trans (KC.below HB2.out)).trans hkq⟩
        case measure => simp [intOf]; omega
      · gi_wp2
        go_end0
        exact ⟨⟨_, rfl⟩, .inr ⟨_, trivial, hjx⟩⟩
    · have d1 : decide (k ≤ v) = false := decide_eq_false hkv
      gi_wp2
      refine ⟨trivial, ?_⟩
      gi_wp2
      go_end0
      exact ⟨⟨_, rfl⟩, .inl ⟨_, trivial, HJ.out _ _ _ HP.out b2⟩⟩
theorem subs_any (s : Int) (w : World) : Calls Tryd.prog 18 #[.int .u16 s] w (fun e w' => e = .returned (.func (.func 31) #[] #[.pointer (some ⟨w.heap.size, 0, none⟩)]) ∧ w' = w.alloc (.cells #[.int .u16 s] 51)) := by
  go_enter Tryd.func18, Tryd.ntmps18
  go_wp2_with fail
  go_ret
  exact ⟨rfl, rfl⟩
end Go.Proofs.YtlklmpcfhnbhgaaDoor
