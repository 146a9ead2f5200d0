/- The contract of message.present. -/
import Derived.Test.YtoehakekjlebdaaDoorValD
import Derived.Test.YtoehakekjlebdaaDoorEqSg
import Derived.Deep.AppendLies
namespace Go.Proofs.YtoehakekjlebdaaDoor
open Go.RowKit

def presK (L : List Bool) : Nat → Nat
  | 0 => 0
  | k + 1 => presK L k + if L.getD k false then 2 ^ k else 0
theorem presK_lt (L : List Bool) : ∀ k, presK L k < 2 ^ k
  | 0 => by simp [presK]
  | k + 1 => by
    have := presK_lt L k
    rw [presK, Nat.pow_succ]
    split <;> omega
theorem or_step' : ∀ (k : Fin 9) (a : Fin 512), a.val < 2 ^ k.val → bits BinOp.or IntKind.i64 (a.val : Int) (((2 ^ k.val : Nat) : Int)) = ((a.val + 2 ^ k.val : Nat) : Int) := by decide +kernel
theorem or_step (a k : Nat) (ha : a < 2 ^ k) (hk : k < 9) : bits BinOp.or IntKind.i64 (a : Int) (((2 ^ k : Nat) : Int)) = ((a + 2 ^ k : Nat) : Int) := by
  have h2 : 2 ^ k ≤ 2 ^ 8 := Nat.pow_le_pow_right (by omega) (by omega)
  exact or_step' ⟨k, hk⟩ ⟨a, by omega⟩ ha
theorem two_wrap' : ∀ k : Fin 9, wrap64 ((2 : Int) ^ k.val) = ((2 ^ k.val : Nat) : Int) := by decide +kernel
theorem two_wrap (k : Nat) (hk : k < 9) : wrap64 ((2 : Int) ^ k) = ((2 ^ k : Nat) : Int) := two_wrap' ⟨k, hk⟩
def RetInt (n : Int) (w : World) (e : Ending) (w' : World) : Prop := e = .returned (.int .i64 n) ∧ Below w.heap.size w w'
theorem ret_in {n m : Int} {w w' : World} (h : n = m) (hb : Below w.heap.size w w') : RetInt n w (.returned (.int .i64 m)) w' := ⟨by rw [h], hb⟩
def GivesBool (w : World) (cs : List Value) (T : TypeId) (b : Bool) (e : Ending) (w' : World) : Prop := e = .returned (.bool b) ∧ Bx w cs T w'
theorem gives_bool {P : Program} {k : FuncId} {args : Array Value} {w w1 : World} {cs : List Value} {T : TypeId} {b : Bool} (hb : Bx w cs T w1) (h : Calls P k args w1 (RetBool b w1)) : Calls P k args w1 (GivesBool w cs T b) :=
  h.mono fun _ _ ⟨he, hw⟩ => ⟨he, bx_on hb hw⟩
set_option maxRecDepth 100000 in
set_option maxHeartbeats 8000000 in
theorem present_any (m : Ms) (w : World) (h1 : m.snapshot.chunks.l.length ≤ 1099511627776) (h2 : m.snapshot.proof.l.length ≤ 1099511627776) (h3 : m.snapshot.chain.l.length ≤ 1099511627776) :
    Calls Tryd.prog 21 #[.agg #[.int .i64 m.kind, .int .i64 m.src, .int .i64 m.dst, .int .i64 m.view, .int .i64 m.slot, .string ⟨m.value.toArray⟩, .int .i64 m.till, .int .i64 m.signed.server, .int .i64 m.signed.kind, .int .i64 m.signed.view, .int .i64 m.signed.slot, .string ⟨m.signed.digest.toArray⟩, .string ⟨m.signed.sig.toArray⟩, .slice m.statuses.a m.statuses.l.length m.statuses.c, .slice m.entries.a m.entries.l.length m.entries.c, .int .i64 m.snapshot.slot, .string ⟨m.snapshot.root.toArray⟩, .slice m.snapshot.chunks.a m.snapshot.chunks.l.length m.snapshot.chunks.c, .slice m.snapshot.proof.a m.snapshot.proof.l.length m.snapshot.proof.c, .slice m.snapshot.chain.a m.snapshot.chain.l.length m.snapshot.chain.c, .slice m.texts.a m.texts.l.length m.texts.c]] w (RetInt (presK (presL m) 9) w) := by
  have HE : Hid (∀ (w1 : World) (R : Prop), (Bx w (msC m) 32 w1 ∧ R) → Calls Tryd.prog 43 #[.agg #[.int .i64 m.snapshot.slot, .string ⟨m.snapshot.root.toArray⟩, .slice m.snapshot.chunks.a m.snapshot.chunks.l.length m.snapshot.chunks.c, .slice m.snapshot.proof.a m.snapshot.proof.l.length m.snapshot.proof.c, .slice m.snapshot.chain.a m.snapshot.chain.l.length m.snapshot.chain.c]] w1 (GivesBool w (msC m) 32 (emptySn m.snapshot))) :=
    Lib.hid (fun w1 _ hb => gives_bool hb.1 (empty_any m.snapshot w1 h1 h2 h3))
  have HC : Hid (∀ w1, Bx w (msC m) 32 w1 → Bx w (msC m) 32 w1 ∧ w1.cell? ⟨w.heap.size, 3, none⟩ = some (.int .i64 m.view) ∧ w1.cell? ⟨w.heap.size, 4, none⟩ = some (.int .i64 m.slot) ∧ w1.cell? ⟨w.heap.size, 5, none⟩ = some (.string ⟨m.value.toArray⟩) ∧ w1.cell? ⟨w.heap.size, 6, none⟩ = some (.int .i64 m.till) ∧ w1.cell? ⟨w.heap.size, 7, none⟩ = some (.int .i64 m.signed.server) ∧ w1.cell? ⟨w.heap.size, 8, none⟩ = some (.int .i64 m.signed.kind) ∧ w1.cell? ⟨w.heap.size, 9, none⟩ = some (.int .i64 m.signed.view) ∧ w1.cell? ⟨w.heap.size, 10, none⟩ = some (.int .i64 m.signed.slot) ∧ w1.cell? ⟨w.heap.size, 11, none⟩ = some (.string ⟨m.signed.digest.toArray⟩) ∧ w1.cell? ⟨w.heap.size, 12, none⟩ = some (.string ⟨m.signed.sig.toArray⟩) ∧ w1.cell? ⟨w.heap.size, 13, none⟩ = some (.slice m.statuses.a m.statuses.l.length m.statuses.c) ∧ w1.cell? ⟨w.heap.size, 14, none⟩ = some (.slice m.entries.a m.entries.l.length m.entries.c) ∧ w1.cell? ⟨w.heap.size, 15, none⟩ = some (.int .i64 m.snapshot.slot) ∧ w1.cell? ⟨w.heap.size, 16, none⟩ = some (.string ⟨m.snapshot.root.toArray⟩) ∧ w1.cell? ⟨w.heap.size, 17, none⟩ = some (.slice m.snapshot.chunks.a m.snapshot.chunks.l.length m.snapshot.chunks.c) ∧ w1.cell? ⟨w.heap.size, 18, none⟩ = some (.slice m.snapshot.proof.a m.snapshot.proof.l.length m.snapshot.proof.c) ∧ w1.cell? ⟨w.heap.size, 19, none⟩ = some (.slice m.snapshot.chain.a m.snapshot.chain.l.length m.snapshot.chain.c) ∧ w1.cell? ⟨w.heap.size, 20, none⟩ = some (.slice m.texts.a m.texts.l.length m.texts.c)) :=
    Lib.hid (fun w1 hb => ⟨hb, bx_cell hb 3 _ rfl, bx_cell hb 4 _ rfl, bx_cell hb 5 _ rfl, bx_cell hb 6 _ rfl, bx_cell hb 7 _ rfl, bx_cell hb 8 _ rfl, bx_cell hb 9 _ rfl, bx_cell hb 10 _ rfl, bx_cell hb 11 _ rfl, bx_cell hb 12 _ rfl, bx_cell hb 13 _ rfl, bx_cell hb 14 _ rfl, bx_cell hb 15 _ rfl, bx_cell hb 16 _ rfl, bx_cell hb 17 _ rfl, bx_cell hb 18 _ rfl, bx_cell hb 19 _ rfl, bx_cell hb 20 _ rfl⟩)
  have H0 := Lib.hid (bx_new w (msC m) 32)
  have hne := run_ne_sg m.signed
  clear h1 h2 h3
  go_enter Tryd.func21, Tryd.ntmps21
  go_wp2_with fail
  go_region_held3 (fun w1 => Bx w (msC m) 32 w1 ∧ w1.cell? ⟨w.heap.size, 3, none⟩ = some (.int .i64 m.view) ∧ w1.cell? ⟨w.heap.size, 4, none⟩ = some (.int .i64 m.slot) ∧ w1.cell? ⟨w.heap.size, 5, none⟩ = some (.string ⟨m.value.toArray⟩) ∧ w1.cell? ⟨w.heap.size, 6, none⟩ = some (.int .i64 m.till) ∧ w1.cell? ⟨w.heap.size, 7, none⟩ = some (.int .i64 m.signed.server) ∧ w1.cell? ⟨w.heap.size, 8, none⟩ = some (.int .i64 m.signed.kind) ∧ w1.cell? ⟨w.heap.size, 9, none⟩ = some (.int .i64 m.signed.view) ∧ w1.cell? ⟨w.heap.size, 10, none⟩ = some (.int .i64 m.signed.slot) ∧ w1.cell? ⟨w.heap.size, 11, none⟩ = some (.string ⟨m.signed.digest.toArray⟩) ∧ w1.cell? ⟨w.heap.size, 12, none⟩ = some (.string ⟨m.signed.sig.toArray⟩) ∧ w1.cell? ⟨w.heap.size, 13, none⟩ = some (.slice m.statuses.a m.statuses.l.length m.statuses.c) ∧ w1.cell? ⟨w.heap.size, 14, none⟩ = some (.slice m.entries.a m.entries.l.length m.entries.c) ∧ w1.cell? ⟨w.heap.size, 15, none⟩ = some (.int .i64 m.snapshot.slot) ∧ w1.cell? ⟨w.heap.size, 16, none⟩ = some (.string ⟨m.snapshot.root.toArray⟩) ∧ w1.cell? ⟨w.heap.size, 17, none⟩ = some (.slice m.snapshot.chunks.a m.snapshot.chunks.l.length m.snapshot.chunks.c) ∧ w1.cell? ⟨w.heap.size, 18, none⟩ = some (.slice m.snapshot.proof.a m.snapshot.proof.l.length m.snapshot.proof.c) ∧ w1.cell? ⟨w.heap.size, 19, none⟩ = some (.slice m.snapshot.chain.a m.snapshot.chain.l.length m.snapshot.chain.c) ∧ w1.cell? ⟨w.heap.size, 20, none⟩ = some (.slice m.texts.a m.texts.l.length m.texts.c))
    (first | exact HC.out _ (bx_drew H0.out) | exact HC.out _ (bx_alloc (‹Bx _ _ _ _ ∧ _›).1 _) | exact HC.out _ ‹Bx _ _ _ _›)
    ((go_at_call 43; refine (HE.out _ _ (by assumption)).mono ?_; rintro e w2 ⟨rfl, b2⟩))
  all_goals
    go_wp2_with fail
    generalize hW : w2.alloc _ = wz
    have HZ : Hid (∀ k, k < 9 → wz.cell? ⟨w2.heap.size, k, none⟩ = some (.bool ((presL m).getD k false))) := Lib.hid (fun k hk => by
      rw [← hW]
      exact new_cell w2 ((presL m).map Value.bool) 4 _ rfl k _ (by
        have h9 : (presL m).length = 9 := rfl
        rw [List.getElem?_map, List.getElem?_eq_getElem (by omega), List.getD_eq_getElem?_getD, List.getElem?_eq_getElem (by omega)]; rfl))
    have HWB : Hid (Below w.heap.size w wz) := Lib.hid (hW ▸ bx_low (bx_alloc b2 _))
    clear hW b2 hne H0 HC HE
    go_loop [3, 40] (fun o i => ∃ k : Nat, i = .int .i64 k ∧ k ≤ 9 ∧ o = .int .i64 (presK (presL m) k)) (fun _ i => 9 - (intOf i).toNat)
    case atStart => exact ⟨0, rfl, by omega, rfl⟩
    case round =>
      obtain ⟨k, rfl, hk, rfl⟩ := hrel
      by_cases hlt : k < 9
      · have hcell := HZ.out k hlt
        have i0 : (0 : Int) ≤ (k : Int) := by omega
        have i1 : (k : Int) < 9 := by omega
        have i2 : (k : Int) ≤ 64 := by omega
        have HS : Hid (presK (presL m) (k + 1) = presK (presL m) k + if (presL m).getD k false then 2 ^ k else 0) := Lib.hid rfl
        have HA := Lib.hid (presK_lt (presL m) k)
        generalize hb : (presL m).getD k false = b at hcell HS
        cases b
        · go_wp2_with fail
          go_round
          case rel => exact ⟨k + 1, by go_num, by omega, by rw [HS.out]; rfl⟩
          case measure => simp [intOf]; omega
        · have HT := Lib.hid (or_step _ k HA.out (by omega))
          go_wp2_with fail
          go_round
          case rel =>
            refine ⟨k + 1, by go_num, by omega, ?_⟩
            rw [HS.out]
            rw [two_wrap k hlt, HT.out, if_pos rfl]
          case measure => simp [intOf]; omega
      · obtain rfl : k = 9 := by omega
        go_wp2_with fail
        go_ret
        exact ret_in rfl HWB.out
end Go.Proofs.YtoehakekjlebdaaDoor
