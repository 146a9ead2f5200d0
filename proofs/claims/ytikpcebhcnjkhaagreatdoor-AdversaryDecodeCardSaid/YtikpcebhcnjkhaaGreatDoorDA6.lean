/- Kinds, receivers, ranges of a lie. -/
import Derived.Test.YtikpcebhcnjkhaaGreatDoorDPl
import Derived.Test.YtikpcebhcnjkhaaGreatDoorDA1
namespace Go.Proofs.YtikpcebhcnjkhaaGreatDoor
open Go.RowKit
theorem ints_at {w : World} {A : Option Addr} {ks : List Int} (h : Rd w 1 A ks.length (intC ks)) {k : Nat} (hk : k < ks.length) : ∃ b o, A = some ⟨b, o, none⟩ ∧ b < w.heap.size ∧ ∀ w', Below w.heap.size w w' → w'.cell? ⟨b, o + k, none⟩ = some (.int .i64 ks[k]) := by
 obtain ⟨b, o, e, hb, hc⟩ := h.cells (by rw [intC_len]; omega)
 exact ⟨b, o, e, hb, fun w' hw => (hw.cell (p := ⟨b, o + k, none⟩) hb).trans (hc k _ (by simp [intC, hk]))⟩
theorem mem_take_succ (ks : List Int) (k : Nat) (h : k < ks.length) (n : Int) (h1 : n ∉ ks.take k) (h2 : n ≠ ks[k]) : n ∉ ks.take (k + 1) := by
 rw [List.take_succ_eq_append_getElem h, List.mem_append, List.mem_singleton]
 rintro (h3 | h3)
 · exact h1 h3
 · exact h2 h3
set_option maxRecDepth 100000 in
set_option maxHeartbeats 2000000 in
theorem idxInt_any (A : Option Addr) (c : Nat) (ks : List Int) (n : Int) (w : World) (h : Rd w 1 A ks.length (intC ks)) (hn : ks.length ≤ 1099511627776) :
    Calls Tryz.prog 56 #[.slice A ks.length c, .int .i64 n] w fun e w' => (∃ i : Int, e = .returned (.int .i64 i) ∧ decide (0 ≤ i) = decide (n ∈ ks)) ∧ w' = w := by
 have HR := hD h
 clear h
 go_enter Tryz.func56, Tryz.ntmps56
 go_wp2_with fail
 go_loopw [8] (fun i wr => ∃ k : Nat, i = .int .i64 k ∧ k ≤ ks.length ∧ n ∉ ks.take k ∧ wr = w) (fun i _ => ks.length - (intOf i).toNat)
 case atStart => exact ⟨0, rfl, by omega, by simp, rfl⟩
 case round =>
  obtain ⟨k, rfl, hk, hm, rfl⟩ := hrel
  have HM := hD hm
  clear hm
  by_cases hlt : k < ks.length
  · have i0' : (0 : Int) ≤ (k : Int) := by omega
    have i1 : (k : Int) < (ks.length : Int) := by omega
    obtain ⟨b, off, rfl, hg, hcc⟩ := ints_at HR.out hlt
    have c0 := hcc _ (Below.refl _ _)
    obtain ⟨y, hy⟩ : ∃ y, y = ks[k] := ⟨_, rfl⟩
    rw [← hy] at c0
    clear hcc
    by_cases hq : n = y
    · have q1 : (n == y) = true := by simpa using hq
      have HF : Hid (decide ((0 : Int) ≤ (k : Int)) = decide (n ∈ ks)) := hD (by
       have h1 : n ∈ ks := by rw [hq, hy]; exact List.getElem_mem hlt
       simp [h1])
      clear hq hy
      go_wp2_with fail
      go_ret
      exact ⟨⟨_, rfl, HF.out⟩, by first | rfl | trivial⟩
    · have q1 : (n == y) = false := by simpa using hq
      have HF : Hid (n ∉ ks.take (k + 1)) := hD (mem_take_succ ks k hlt n HM.out (by rw [← hy]; exact hq))
      clear hq hy
      go_wp2_with fail
      go_roundw
      case rel => exact ⟨k + 1, by go_num, by omega, HF.out, by first | rfl | trivial⟩
      case measure => simp [intOf]; omega
  · obtain rfl : k = ks.length := by omega
    have HF : Hid (decide ((0 : Int) ≤ -1) = decide (n ∈ ks)) := hD (by
     have h1 := HM.out
     rw [List.take_length] at h1
     simp [h1])
    go_wp2_with fail
    go_ret
    exact ⟨⟨_, rfl, HF.out⟩, by first | rfl | trivial⟩
set_option maxRecDepth 100000 in
theorem hasInt_any (A : Option Addr) (c : Nat) (ks : List Int) (n : Int) (w : World) (h : Rd w 1 A ks.length (intC ks)) (hn : ks.length ≤ 1099511627776) :
    Calls Tryz.prog 24 #[.slice A ks.length c, .int .i64 n] w fun e w' => e = .returned (.bool (decide (n ∈ ks))) ∧ w' = w := by
 have HC := hD (idxInt_any A c ks n w h hn)
 clear h hn
 go_enter Tryz.func24, Tryz.ntmps24
 go_wp2_with fail
 refine HC.out.mono ?_
 rintro e w2 ⟨⟨i, rfl, hi⟩, hw⟩
 subst hw
 go_wp2_with fail
 go_ret
 exact ⟨ret_bool (by first | exact hi | (rw [← hi]; done) | (rw [← hi]; simp)), rfl⟩
def RetIntsA (l : List Int) (w : World) (e : Ending) (w' : World) : Prop := ∃ A c, e = .returned (.slice A l.length c) ∧ Rd w' 1 A l.length (intC l) ∧ Below w.heap.size w w'
set_option maxRecDepth 100000 in
set_option maxHeartbeats 2000000 in
theorem kindsP_any (w : World) : Calls Tryz.prog 25 #[] w (RetIntsA [1, 2, 3, 4, 5] w) := by
 have HR := hD (rd_new w 1 5 (intC [1, 2, 3, 4, 5]) 3 rfl)
 go_enter Tryz.func25, Tryz.ntmps25
 go_wp2_with fail
 go_ret
 exact ⟨_, _, rfl, HR.out, below_new w _⟩
set_option maxRecDepth 100000 in
set_option maxHeartbeats 2000000 in
theorem kindsR_any (w : World) : Calls Tryz.prog 28 #[] w (RetIntsA [1, 2, 3, 4, 5] w) := by
 have HR := hD (rd_new w 1 5 (intC [1, 2, 3, 4, 5]) 3 rfl)
 go_enter Tryz.func28, Tryz.ntmps28
 go_wp2_with fail
 go_ret
 exact ⟨_, _, rfl, HR.out, below_new w _⟩
def recv (n k : Nat) (kind : Int) : Int := if kind = 5 then ((n + k : Nat) : Int) else (n : Int)
theorem recv_le (n k : Nat) (kind : Int) : 0 ≤ recv n k kind ∧ recv n k kind ≤ ((n + k : Nat) : Int) := by unfold recv; split <;> omega
set_option maxRecDepth 100000 in
set_option maxHeartbeats 2000000 in
theorem recvP_any (A B D E F : Option Addr) (u : Int) (n c n2 c2 n3 c3 n4 c4 k c5 : Nat) (kind : Int) (w : World) (h : n + k ≤ 1000) : Calls Tryz.prog 27 #[.agg #[.slice A n c, .slice B n2 c2, .int .u16 u, .slice D n3 c3, .slice E n4 c4, .slice F k c5], .int .i64 kind] w (RetInt (recv n k kind) w) := by
 by_cases hk : kind = 5
 · have HF : Hid (recv n k kind = (n : Int) + (k : Int)) := hD (by unfold recv; rw [if_pos hk]; omega)
   have q1 : (kind == 5) = true := by simpa using hk
   clear hk
   go_enter Tryz.func27, Tryz.ntmps27
   go_wp2_with fail
   go_ret
   exact ret_in HF.out (below_new w _)
 · have HF : Hid (recv n k kind = (n : Int)) := hD (by unfold recv; rw [if_neg hk])
   have q1 : (kind == 5) = false := by simpa using hk
   clear hk
   go_enter Tryz.func27, Tryz.ntmps27
   go_wp2_with fail
   go_ret
   exact ret_in HF.out (below_new w _)
set_option maxRecDepth 100000 in
set_option maxHeartbeats 2000000 in
theorem recvR_any (A B D E F : Option Addr) (u : Int) (n c n2 c2 n3 c3 n4 c4 k c5 : Nat) (kind : Int) (w : World) (h : n + k ≤ 1000) : Calls Tryz.prog 31 #[.agg #[.slice A n c, .slice B n2 c2, .int .u16 u, .slice D n3 c3, .slice E n4 c4, .slice F k c5], .int .i64 kind] w (RetInt (recv n k kind) w) := by
 by_cases hk : kind = 5
 · have HF : Hid (recv n k kind = (n : Int) + (k : Int)) := hD (by unfold recv; rw [if_pos hk]; omega)
   have q1 : (kind == 5) = true := by simpa using hk
   clear hk
   go_enter Tryz.func31, Tryz.ntmps31
   go_wp2_with fail
   go_ret
   exact ret_in HF.out (below_new w _)
 · have HF : Hid (recv n k kind = (n : Int)) := hD (by unfold recv; rw [if_neg hk])
   have q1 : (kind == 5) = false := by simpa using hk
   clear hk
   go_enter Tryz.func31, Tryz.ntmps31
   go_wp2_with fail
   go_ret
   exact ret_in HF.out (below_new w _)
def inR (x a b : Int) : Bool := decide (a ≤ x) && decide (x ≤ b)
theorem inP_any (x a b : Int) (w : World) : Calls Tryz.prog 26 #[.int .i64 x, .int .i64 a, .int .i64 b] w (fun e w' => e = .returned (.bool (inR x a b)) ∧ w = w') := advIn_any x a b w
structure Li where
 kind : Int
 server : Int
 dst : Int
 view : Int
 slot : Int
 value : Int
 pick : Int
def known (x : Int) : Bool := decide (x ∈ [(1 : Int), 2, 3, 4, 5])
def vLi (n k s : Nat) (l : Li) : Int :=
 if known l.kind = false then 1
 else if inR l.server 0 ((n : Int) - 1) && inR l.dst 0 (recv n k l.kind - 1) && inR l.view 1 1000000 && inR l.slot 0 1000000 && inR l.value 0 1000000 && inR l.pick 0 65535 && s.testBit l.server.toNat then 0 else 7
open Go.RowKit
def Bz (w : World) (x : List Value) (T1 : TypeId) (y : List Value) (T2 : TypeId) (w' : World) : Prop := Below (w.heap.size + 2) ((w.alloc (.cells x.toArray T1)).alloc (.cells y.toArray T2)) w'
section
variable {w w' w1 w2 : World} {x y : List Value} {T1 T2 : TypeId}
theorem bz_low (h : Bz w x T1 y T2 w') : Below w.heap.size w w' := (bon (below_new w _) (below_new _ _)).trans (Below.mono h (by omega))
theorem bz_size (h : Bz w x T1 y T2 w') : w.heap.size + 2 ≤ w'.heap.size := by have := Below.size h; simpa using this
theorem bz_x (h : Bz w x T1 y T2 w') (j : Nat) (v : Value) (hj : x[j]? = some v) : w'.cell? ⟨w.heap.size, j, none⟩ = some v := by
 have h1 := Below.cell h (p := ⟨w.heap.size, j, none⟩) (by show w.heap.size < w.heap.size + 2; omega)
 have h2 := (below_new (w.alloc (.cells x.toArray T1)) (.cells y.toArray T2)).cell (p := ⟨w.heap.size, j, none⟩) (by simp)
 have h3 := cell_new w x T1 w.heap.size rfl j v hj
 rw [add_off, Nat.zero_add] at h3
 rw [h1, h2, h3]
theorem bz_y (h : Bz w x T1 y T2 w') (j : Nat) (v : Value) (hj : y[j]? = some v) : w'.cell? ⟨w.heap.size + 1, j, none⟩ = some v := by
 have h1 := Below.cell h (p := ⟨w.heap.size + 1, j, none⟩) (by show w.heap.size + 1 < w.heap.size + 2; omega)
 have h3 := cell_new (w.alloc (.cells x.toArray T1)) y T2 (w.heap.size + 1) (by simp) j v hj
 rw [add_off, Nat.zero_add] at h3
 rw [h1, h3]
theorem bz_on (h : Bz w x T1 y T2 w1) (k : Below w1.heap.size w1 w2) : Bz w x T1 y T2 w2 := Below.trans h (k.mono (bz_size h))
theorem bz_new (w : World) (x : List Value) (T1 : TypeId) (y : List Value) (T2 : TypeId) : Bz w x T1 y T2 ((w.alloc (.cells x.toArray T1)).alloc (.cells y.toArray T2)) := Below.refl _ _
end
theorem flip_b {P : Program} {k : FuncId} {args : Array Value} {w : World} {v : Ending} (h : Calls P k args w (fun e w' => e = v ∧ w' = w)) : Calls P k args w (fun e w' => e = v ∧ Below w.heap.size w w') := h.mono fun _ _ ⟨a, b⟩ => ⟨a, b ▸ Below.refl _ _⟩
theorem same_b {P : Program} {k : FuncId} {args : Array Value} {w : World} {v : Ending} (h : Calls P k args w (fun e w' => e = v ∧ w = w')) : Calls P k args w (fun e w' => e = v ∧ Below w.heap.size w w') := h.mono fun _ _ ⟨a, b⟩ => ⟨a, b ▸ Below.refl _ _⟩
theorem inR_true {x a b : Int} (h : inR x a b = true) : a ≤ x ∧ x ≤ b := by
 unfold inR at h
 rw [Bool.and_eq_true, decide_eq_true_eq, decide_eq_true_eq] at h
 exact h
open Go.RowKit
theorem own_two {w : World} {base e k n c : Nat} {A : Option Addr} {xs : List Value} (h : w.ownsRow base e k (.slice A n c) n xs) (hn : 0 < n) : ∃ g, A = some ⟨g, 0, none⟩ := by
 obtain ⟨g, cap, e, _⟩ := h.form hn
 injection e with e1
 exact ⟨g, e1⟩
def RetTwo (w : World) (e : Ending) (w' : World) : Prop := ∃ g c, e = .returned (.slice (some ⟨g, 0, none⟩) 1 c) ∧ w.heap.size ≤ g ∧ w'.cell? ⟨g, 0, none⟩ = some (.int .i64 2) ∧ Below w.heap.size w w'
def Tz (w : World) : Prop := w.cell? ⟨0, 3, none⟩ = some (.int .u8 2)
theorem Tz.below {w w' : World} (h : Tz w) (hb : Below w.heap.size w w') : Tz w' := (hb.cell (p := ⟨0, 3, none⟩) (Lib.lt_of_cell h)).trans h
set_option maxRecDepth 100000 in
set_option maxHeartbeats 2000000 in
theorem tz4_any (w : World) (ht : Tz w) : Calls Tryz.prog 65 #[.int .u16 4] w (Same (.int .i64 2) w) := by
 have hc : w.cell? ⟨0, 3, none⟩ = some (.int .u8 2) := ht
 have lz := Lib.lt_of_cell ht
 have he : bits .and .u16 4 (IntKind.u16.wrap (-4)) = 4 := by kernel_rfl
 clear ht
 go_enter Tryz.func65, Tryz.ntmps65
 go_wp2_with fail
 go_ret
 exact ⟨rfl, rfl⟩
set_option maxRecDepth 100000 in
set_option maxHeartbeats 2000000 in
theorem members4_any (w : World) (ht : Tz w) : Calls Tryz.prog 34 #[.int .u16 4] w (RetTwo w) := by
 have HT := hD (tz4_any w ht)
 have he : bits .and .u16 4 3 = 0 := by kernel_rfl
 clear ht
 go_enter Tryz.func34, Tryz.ntmps34
 go_wp2_with fail
 go_loopw [0, 3] (fun s o wr => (s = .int .u16 4 ∧ o = .slice none 0 0 ∧ wr = w) ∨ (s = .int .u16 0 ∧ wr.ownsRow w.heap.size 3 1 o 1 [.int .i64 2] ∧ Below w.heap.size w wr)) (fun s _ _ => (intOf s).toNat)
 case atStart => exact .inl ⟨rfl, rfl, rfl⟩
 case round =>
  rcases hrel with ⟨rfl, rfl, rfl⟩ | ⟨rfl, how, hbl⟩
  · go_wp2_with fail
    refine HT.out.mono ?_
    rintro e w2 ⟨rfl, rfl⟩
    go_wp2_with (at_builtin; refine wpList_apr elemI rfl _ _ rfl wr.heap.size rfl (World.ownsRow_nil _ _ _ _) rfl (rd_new wr 1 1 [.int .i64 2] _ (by rfl)) (by simp [Value.oneCell']) (by omega) (by omega) (by simp) ?_)
    intro A' c' w4 hown hb4
    have HO4 := hD hown
    have HB4 := hD ((below_new wr _).trans hb4)
    clear hown hb4
    go_wp2_with fail
    go_roundw
    case rel => exact .inr ⟨rfl, by simpa using HO4.out, HB4.out⟩
    case measure => simp [intOf]
  · obtain ⟨A, c, rfl⟩ := ownsRow_form how
    have HO := hD how
    have HB := hD hbl
    clear how hbl
    go_wp2_with fail
    go_ret
    obtain ⟨g, rfl⟩ := own_two HO.out (by omega)
    exact ⟨g, c, rfl, (HO.out.lt g rfl).1, by simpa using HO.out.cellAt 0 (by omega), HB.out⟩
set_option maxRecDepth 100000 in
set_option maxHeartbeats 2000000 in
theorem dec1_any (i : Int) (b : Nat) (A : Option Addr) (n c : Nat) (w : World) (h : w.cell? ⟨b, 0, none⟩ = some (.slice A n c)) : Calls Tryz.prog 35 #[.int .i64 i, .pointer (some ⟨b, 0, none⟩)] w (Same (.bool (decide ((n : Int) ≤ i))) w) := by
 have lz := Lib.lt_of_cell h
 go_enter Tryz.func35, Tryz.ntmps35
 go_wp2_with fail
 go_ret
 exact ⟨ret_bool (by first | rfl | simp), rfl⟩
open Go.RowKit
set_option maxRecDepth 100000 in
set_option maxHeartbeats 2000000 in
theorem ixf_any (A0 : Option Addr) (c0 b : Nat) (A : Option Addr) (n c : Nat) (l : List Nat) (w : World) (hr : Rd w 1 A0 l.length (natC l)) (hb : w.cell? ⟨b, 0, none⟩ = some (.slice A n c)) (hn : l.length ≤ 1000) (hall : ∀ x ∈ l, x < n) : Calls Tryz.prog 64 #[.slice A0 l.length c0, .func (.func 35) #[] #[.pointer (some ⟨b, 0, none⟩)]] w (Same (.int .i64 (-1)) w) := by
 have HR := hD hr
 have HCl := hD (fun (i : Int) => dec1_any i b A n c w hb)
 have HA := hD hall
 clear hr hb hall
 go_enter Tryz.func64, Tryz.ntmps64
 go_wp2_with fail
 go_loopw [8] (fun i wr => ∃ k : Nat, i = .int .i64 k ∧ k ≤ l.length ∧ wr = w) (fun i _ => l.length - (intOf i).toNat)
 case atStart => exact ⟨0, rfl, by omega, rfl⟩
 case round =>
  obtain ⟨k, rfl, hk, rfl⟩ := hrel
  by_cases hlt : k < l.length
  · have i0' : (0 : Int) ≤ (k : Int) := by omega
    have i1 : (k : Int) < (l.length : Int) := by omega
    obtain ⟨bb, off, rfl, hg, hcc⟩ := HR.out.cells (by rw [natC_len]; omega)
    have c0 : wr.cell? ⟨bb, off + k, none⟩ = some (.int .i64 (l[k] : Int)) := hcc k _ (by simp [natC, hlt])
    have hx := HA.out l[k] (List.getElem_mem hlt)
    obtain ⟨x, hxe⟩ : ∃ x, x = l[k] := ⟨_, rfl⟩
    rw [← hxe] at c0 hx
    have HC := hD (HCl.out (x : Int))
    have hd : decide ((n : Int) ≤ (x : Int)) = false := decide_eq_false (by omega)
    rw [hd] at HC
    clear hcc hxe hd
    go_wp2_with fail
    refine HC.out.mono ?_
    rintro e w2 ⟨rfl, rfl⟩
    go_wp2_with fail
    go_roundw
    case rel => exact ⟨k + 1, by go_num, by omega, by first | rfl | trivial⟩
    case measure => simp [intOf]; omega
  · have j1 : (l.length : Int) ≤ (k : Int) := by omega
    have j2 : ¬ (k : Int) < (l.length : Int) := by omega
    have j3 : decide (k < l.length) = false := by simpa using hlt
    go_wp2_with fail
    go_ret
    exact ⟨rfl, by first | rfl | trivial⟩
set_option maxRecDepth 100000 in
set_option maxHeartbeats 2000000 in
theorem del_any (A0 : Option Addr) (c0 b : Nat) (A : Option Addr) (n c : Nat) (l : List Nat) (w : World) (hr : Rd w 1 A0 l.length (natC l)) (hb : w.cell? ⟨b, 0, none⟩ = some (.slice A n c)) (hn : l.length ≤ 1000) (hall : ∀ x ∈ l, x < n) : Calls Tryz.prog 33 #[.slice A0 l.length c0, .func (.func 35) #[] #[.pointer (some ⟨b, 0, none⟩)]] w (Same (.slice A0 l.length c0) w) := by
 have HI := hD (ixf_any A0 c0 b A n c l w hr hb hn hall)
 clear hr hb hall
 go_enter Tryz.func33, Tryz.ntmps33
 go_wp2_with fail
 refine HI.out.mono ?_
 rintro e w2 ⟨rfl, rfl⟩
 go_wp2_with fail
 go_ret
 exact ⟨rfl, rfl⟩
def BY (l : List Nat) : List Value := l.map fun (n : Nat) => .int .u8 (n : Int)
set_option maxRecDepth 100000 in
set_option maxHeartbeats 2000000 in
theorem dec2_any (i : Nat) (m : Int) (b b1 o : Nat) (c : Nat) (l : List Nat) (w : World) (hb : w.cell? ⟨b, 0, none⟩ = some (.slice (some ⟨b1, o, none⟩) l.length c)) (hr : ∀ j v, (BY l)[j]? = some v → w.cell? ⟨b1, o + j, none⟩ = some v) (hi : i < l.length) (hl : l[i] < 256) (hm0 : 0 < m) (hm : m ≤ 1000) : Calls Tryz.prog 36 #[.int .i64 (i : Int), .int .i64 m, .pointer (some ⟨b, 0, none⟩)] w (Same (.int .i64 ((l[i] : Int) % m)) w) := by
 have lz := Lib.lt_of_cell hb
 have c0 : w.cell? ⟨b1, o + i, none⟩ = some (.int .u8 (l[i] : Int)) := hr i _ (by simp [BY, hi])
 have l1 := Lib.lt_of_cell c0
 have i0' : (0 : Int) ≤ (i : Int) := by omega
 have i1 : (i : Int) < (l.length : Int) := by omega
 obtain ⟨x, hxe⟩ : ∃ x, x = l[i] := ⟨_, rfl⟩
 rw [← hxe] at c0 hl ⊢
 have x0 : (0 : Int) ≤ (x : Int) := by omega
 have x1 : (x : Int) < 256 := by omega
 have hne : m ≠ 0 := by omega
 clear hr hxe
 go_enter Tryz.func36, Tryz.ntmps36
 go_wp2_with fail
 go_ret
 exact ⟨ret_int (by first | rfl | simp), rfl⟩
end Go.Proofs.YtikpcebhcnjkhaaGreatDoor
