/- Small contracts: closures over ints, slices.IndexFunc, ContainsFunc, Index, Contains where nothing is found. -/
import Derived.Test.YtlklmpcfhnbhgaaDoorCpBase
namespace Go.Proofs.YtlklmpcfhnbhgaaDoor
open Go.RowKit

def RetNo (w : World) (e : Ending) (w' : World) : Prop := e = .returned (.bool false) ∧ w = w'
def RetM1 (w : World) (e : Ending) (w' : World) : Prop := e = .returned (.int .i64 (-1)) ∧ w = w'
set_option maxRecDepth 100000 in
set_option maxHeartbeats 1000000 in
theorem out_any (i : Nat) (w : World) (hi : i < 12) : Calls Tryd.prog 22 #[.int .i64 (i : Int)] w (RetNo w) := by
  have d1 : decide ((i : Int) < 0) = false := by rw [decide_eq_false_iff_not]; omega
  have d2 : decide ((12 : Int) ≤ (i : Int)) = false := by rw [decide_eq_false_iff_not]; omega
  clear hi
  go_enter Tryd.func22, Tryd.ntmps22
  go_wp2_with fail
  go_ret
  exact ⟨rfl, rfl⟩
set_option maxRecDepth 100000 in
set_option maxHeartbeats 1000000 in
theorem unk_any (i k b : Nat) (w : World) (hb : w.cell? ⟨b, 0, none⟩ = some (.int .i64 (k : Int))) (hi : i < k) : Calls Tryd.prog 37 #[.int .i64 (i : Int), .pointer (some ⟨b, 0, none⟩)] w (RetNo w) := by
  have d1 : decide ((i : Int) < 0) = false := by rw [decide_eq_false_iff_not]; omega
  have d2 : decide (k ≤ i) = false := by rw [decide_eq_false_iff_not]; omega
  clear hi
  go_enter Tryd.func37, Tryd.ntmps37
  go_wp2_with fail
  go_ret
  exact ⟨rfl, rfl⟩
set_option maxRecDepth 100000 in
set_option maxHeartbeats 1000000 in
theorem idxOut_any (A : Option Addr) (c : Nat) (l : List Nat) (w : World) (hr : Rd w 1 A l.length (l.flatMap nat1)) (hn : l.length ≤ 1000000) (hl : ∀ x ∈ l, x < 12) :
    Calls Tryd.prog 34 #[.slice A l.length c, .func (.func 22) #[] #[]] w (RetM1 w) := by
  have HR := Lib.hid hr
  have HL := Lib.hid hl
  clear hr hl
  go_enter Tryd.func34, Tryd.ntmps34
  go_wp2_with fail
  go_loop [8] (fun i => ∃ k : Nat, i = .int .i64 k ∧ k ≤ l.length) (fun i => l.length - (intOf i).toNat)
  case atStart => exact ⟨0, rfl, by omega⟩
  case round =>
    obtain ⟨k, rfl, hk⟩ := hrel
    by_cases hlt : k < l.length
    · have i0' : (0 : Int) ≤ (k : Int) := by omega
      have i1 : (k : Int) < (l.length : Int) := by omega
      obtain ⟨b2, o, hA, hb2, hc⟩ := HR.out.at nat1_len (by omega) hlt
      subst hA
      have a0 : w.cell? ⟨b2, o + k, none⟩ = some (.int .i64 (l[k] : Int)) := by simpa using hc w (Below.refl _ _) 0 _ rfl
      have HC := Lib.hid (out_any l[k] w (HL.out l[k] (List.getElem_mem hlt)))
      clear hc
      go_wp2_with fail
      refine HC.out.mono ?_
      rintro e w2 ⟨rfl, rfl⟩
      go_wp2_with fail
      go_round
      case rel => exact ⟨k + 1, by go_num, by omega⟩
      case measure => simp [intOf]; omega
    · obtain rfl : k = l.length := by omega
      go_wp2_with fail
      go_ret
      exact ⟨rfl, rfl⟩
set_option maxRecDepth 100000 in
set_option maxHeartbeats 1000000 in
theorem contOut_any (A : Option Addr) (c : Nat) (l : List Nat) (w : World) (hr : Rd w 1 A l.length (l.flatMap nat1)) (hn : l.length ≤ 1000000) (hl : ∀ x ∈ l, x < 12) :
    Calls Tryd.prog 21 #[.slice A l.length c, .func (.func 22) #[] #[]] w (RetNo w) := by
  have H := Lib.hid (idxOut_any A c l w hr hn hl)
  clear hr hn hl
  go_enter Tryd.func21, Tryd.ntmps21
  go_wp2_with fail
  refine H.out.mono ?_
  rintro e w2 ⟨rfl, rfl⟩
  go_wp2_with fail
  go_ret
  exact ⟨rfl, rfl⟩
set_option maxRecDepth 100000 in
set_option maxHeartbeats 1000000 in
theorem idxUnk_any (A : Option Addr) (c : Nat) (l : List Nat) (b q : Nat) (w : World) (hr : Rd w 1 A l.length (l.flatMap nat1)) (hn : l.length ≤ 1000000) (hb : w.cell? ⟨b, 0, none⟩ = some (.int .i64 (q : Int))) (hl : ∀ x ∈ l, x < q) :
    Calls Tryd.prog 34 #[.slice A l.length c, .func (.func 37) #[] #[.pointer (some ⟨b, 0, none⟩)]] w (RetM1 w) := by
  have HR := Lib.hid hr
  have HL := Lib.hid hl
  have HBq := Lib.hid hb
  clear hr hl hb
  go_enter Tryd.func34, Tryd.ntmps34
  go_wp2_with fail
  go_loop [8] (fun i => ∃ k : Nat, i = .int .i64 k ∧ k ≤ l.length) (fun i => l.length - (intOf i).toNat)
  case atStart => exact ⟨0, rfl, by omega⟩
  case round =>
    obtain ⟨k, rfl, hk⟩ := hrel
    by_cases hlt : k < l.length
    · have i0' : (0 : Int) ≤ (k : Int) := by omega
      have i1 : (k : Int) < (l.length : Int) := by omega
      obtain ⟨b2, o, hA, hb2, hc⟩ := HR.out.at nat1_len (by omega) hlt
      subst hA
      have a0 : w.cell? ⟨b2, o + k, none⟩ = some (.int .i64 (l[k] : Int)) := by simpa using hc w (Below.refl _ _) 0 _ rfl
      have HC := Lib.hid (unk_any l[k] q b w HBq.out (HL.out l[k] (List.getElem_mem hlt)))
      clear hc
      go_wp2_with fail
      refine HC.out.mono ?_
      rintro e w2 ⟨rfl, rfl⟩
      go_wp2_with fail
      go_round
      case rel => exact ⟨k + 1, by go_num, by omega⟩
      case measure => simp [intOf]; omega
    · obtain rfl : k = l.length := by omega
      go_wp2_with fail
      go_ret
      exact ⟨rfl, rfl⟩
set_option maxRecDepth 100000 in
set_option maxHeartbeats 1000000 in
theorem contUnk_any (A : Option Addr) (c : Nat) (l : List Nat) (b q : Nat) (w : World) (hr : Rd w 1 A l.length (l.flatMap nat1)) (hn : l.length ≤ 1000000) (hb : w.cell? ⟨b, 0, none⟩ = some (.int .i64 (q : Int))) (hl : ∀ x ∈ l, x < q) :
    Calls Tryd.prog 21 #[.slice A l.length c, .func (.func 37) #[] #[.pointer (some ⟨b, 0, none⟩)]] w (RetNo w) := by
  have H := Lib.hid (idxUnk_any A c l b q w hr hn hb hl)
  clear hr hn hl
  go_enter Tryd.func21, Tryd.ntmps21
  go_wp2_with fail
  refine H.out.mono ?_
  rintro e w2 ⟨rfl, rfl⟩
  go_wp2_with fail
  go_ret
  exact ⟨rfl, rfl⟩
set_option maxRecDepth 100000 in
set_option maxHeartbeats 1000000 in
theorem idxNil_any (fv : Value) (w : World) : Calls Tryd.prog 34 #[.slice none 0 0, fv] w (RetM1 w) := by
  go_enter Tryd.func34, Tryd.ntmps34
  go_wp2_with fail
  go_loop [8] (fun i => i = .int .i64 0) (fun _ => 0)
  case atStart => rfl
  case round =>
    subst hrel
    go_wp2_with fail
    go_ret
    exact ⟨rfl, rfl⟩
set_option maxRecDepth 100000 in
set_option maxHeartbeats 1000000 in
theorem contNil_any (fv : Value) (w : World) : Calls Tryd.prog 21 #[.slice none 0 0, fv] w (RetNo w) := by
  have H := Lib.hid (idxNil_any fv w)
  go_enter Tryd.func21, Tryd.ntmps21
  go_wp2_with fail
  refine H.out.mono ?_
  rintro e w2 ⟨rfl, rfl⟩
  go_wp2_with fail
  go_ret
  exact ⟨rfl, rfl⟩
set_option maxRecDepth 100000 in
set_option maxHeartbeats 1000000 in
theorem index_any (A : Option Addr) (c : Nat) (l : List Nat) (v : Nat) (w : World) (hr : Rd w 1 A l.length (l.flatMap nat1)) (hn : l.length ≤ 1000000) (hl : ∀ x ∈ l, v ≠ x) :
    Calls Tryd.prog 35 #[.slice A l.length c, .int .i64 (v : Int)] w (RetM1 w) := by
  have HR := Lib.hid hr
  have HL := Lib.hid hl
  clear hr hl
  go_enter Tryd.func35, Tryd.ntmps35
  go_wp2_with fail
  go_loop [8] (fun i => ∃ k : Nat, i = .int .i64 k ∧ k ≤ l.length) (fun i => l.length - (intOf i).toNat)
  case atStart => exact ⟨0, rfl, by omega⟩
  case round =>
    obtain ⟨k, rfl, hk⟩ := hrel
    by_cases hlt : k < l.length
    · have i0' : (0 : Int) ≤ (k : Int) := by omega
      have i1 : (k : Int) < (l.length : Int) := by omega
      obtain ⟨b, o, hA, hb, hc⟩ := HR.out.at nat1_len (by omega) hlt
      subst hA
      have a0 : w.cell? ⟨b, o + k, none⟩ = some (.int .i64 (l[k] : Int)) := by simpa using hc w (Below.refl _ _) 0 _ rfl
      have hx : ((v : Int) == (l[k] : Int)) = false := by
        have := HL.out l[k] (List.getElem_mem hlt)
        rw [beq_eq_false_iff_ne]; omega
      clear hc
      go_wp2_with fail
      go_round
      case rel => exact ⟨k + 1, by go_num, by omega⟩
      case measure => simp [intOf]; omega
    · obtain rfl : k = l.length := by omega
      go_wp2_with fail
      go_ret
      exact ⟨rfl, rfl⟩
set_option maxRecDepth 100000 in
set_option maxHeartbeats 1000000 in
theorem contains_any (A : Option Addr) (c : Nat) (l : List Nat) (v : Nat) (w : World) (hr : Rd w 1 A l.length (l.flatMap nat1)) (hn : l.length ≤ 1000000) (hl : ∀ x ∈ l, v ≠ x) :
    Calls Tryd.prog 23 #[.slice A l.length c, .int .i64 (v : Int)] w (RetNo w) := by
  have H := Lib.hid (index_any A c l v w hr hn hl)
  clear hr hn hl
  go_enter Tryd.func23, Tryd.ntmps23
  go_wp2_with fail
  refine H.out.mono ?_
  rintro e w2 ⟨rfl, rfl⟩
  go_wp2_with fail
  go_ret
  exact ⟨rfl, rfl⟩
theorem Rd.takeN {w : World} {A : Option Addr} {l : List Nat} (h : Rd w 1 A l.length (l.flatMap nat1)) (k : Nat) : Rd w 1 A (l.take k).length ((l.take k).flatMap nat1) := by
  refine ⟨flat_len nat1 1 nat1_len _, fun hj => ?_⟩
  have e : ∀ m : List Nat, m.flatMap nat1 = m.map (fun (x : Nat) => Value.int .i64 (x : Int)) := fun m => by
    induction m with
    | nil => rfl
    | cons x r ih => simp only [List.flatMap_cons, ih, nat1, List.map_cons, List.singleton_append]
  obtain ⟨b, o, hA, hb, hc⟩ := h.cells (by
    rw [e, List.length_map] at hj ⊢
    rw [List.length_take] at hj
    omega)
  refine ⟨b, o, hA, hb, fun j u hu => hc j u ?_⟩
  rw [e, List.getElem?_map] at hu ⊢
  rw [List.getElem?_take] at hu
  split at hu
  · exact hu
  · simp at hu
set_option maxRecDepth 100000 in
set_option maxHeartbeats 1000000 in
theorem distinct_any (A : Option Addr) (c : Nat) (l : List Nat) (w : World) (hr : Rd w 1 A l.length (l.flatMap nat1)) (hc : l.length ≤ c) (hn : l.length ≤ 1000000) (hl : ∀ x ∈ l, x < 12) (hd : l.Nodup) :
    Calls Tryd.prog 8 #[.slice A l.length c] w (fun e w' => e = .returned (.int .i64 0) ∧ w = w') := by
  have HR := Lib.hid hr
  have HD := Lib.hid hd
  have HO := Lib.hid (contOut_any A c l w hr hn hl)
  clear hr hl hd
  go_enter Tryd.func8, Tryd.ntmps8
  go_wp2_with fail
  refine HO.out.mono ?_
  rintro e w2 ⟨rfl, rfl⟩
  go_wp2_with fail
  go_loop [9] (fun i => ∃ k : Nat, i = .int .i64 k ∧ k ≤ l.length) (fun i => l.length - (intOf i).toNat)
  case atStart => exact ⟨0, rfl, by omega⟩
  case round =>
    obtain ⟨k, rfl, hk⟩ := hrel
    by_cases hlt : k < l.length
    · have i0' : (0 : Int) ≤ (k : Int) := by omega
      have i1 : (k : Int) < (l.length : Int) := by omega
      have i2 : (k : Int) ≤ (c : Int) := by omega
      obtain ⟨b, o, hA, hb, hcc⟩ := HR.out.at nat1_len (by omega) hlt
      subst hA
      have a0 : w.cell? ⟨b, o + k, none⟩ = some (.int .i64 (l[k] : Int)) := by simpa using hcc w (Below.refl _ _) 0 _ rfl
      have HC : Hid (Calls Tryd.prog 23 #[.slice (some ⟨b, o, none⟩) k c, .int .i64 (l[k] : Int)] w (RetNo w)) := Lib.hid (by
        have h := contains_any (some ⟨b, o, none⟩) c (l.take k) l[k] w (HR.out.takeN k) (by rw [List.length_take]; omega) (fun x hx e => by
          obtain ⟨j, hj, rfl⟩ := List.mem_take_iff_getElem.1 hx
          have := (List.getElem_inj HD.out).1 e
          omega)
        rwa [List.length_take, Nat.min_eq_left hk] at h)
      clear hcc
      go_wp2_with fail
      refine HC.out.mono ?_
      rintro e w2 ⟨rfl, rfl⟩
      go_wp2_with fail
      go_round
      case rel => exact ⟨k + 1, by go_num, by omega⟩
      case measure => simp [intOf]; omega
    · obtain rfl : k = l.length := by omega
      go_wp2_with fail
      go_ret
      exact ⟨rfl, rfl⟩
end Go.Proofs.YtlklmpcfhnbhgaaDoor
