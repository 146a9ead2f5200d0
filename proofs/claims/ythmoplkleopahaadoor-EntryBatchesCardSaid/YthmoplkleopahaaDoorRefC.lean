/- The contracts of the reference's digits and varints. -/
import Derived.Test.YthmoplkleopahaaDoorRefB
import Derived.Laws.IdiomStrings
import Derived.Deep.RegionHeld3
namespace Go.Proofs.YthmoplkleopahaaDoor
open Go.RowKit

theorem ret_st2' {l : List UInt8} {w w' : World} (x : ByteArray) (h : x = ⟨l.toArray⟩) (hb : Below w.heap.size w w') : RetStr l w (.returned (.string x)) w' := ⟨by rw [h], hb⟩
theorem bc {W w2 : World} (hb : Below W.heap.size W w2) : ∀ b o, b < W.heap.size → w2.cell? ⟨b, o, none⟩ = W.cell? ⟨b, o, none⟩ := fun b o h => hb.cell (p := ⟨b, o, none⟩) h
/-- one byte as a string -/
theorem byte_str (w : World) (g : Nat) (x : Int) (c : Nat) (h0 : 0 ≤ x) (h1 : x < 256) (hc : w.cell? ⟨g, 0, none⟩ = some (.int .u8 x)) :
    Sem.run Tryd.prog (convert 73 9 (.slice (some ⟨g, 0, none⟩) 1 c)) w = .ok (.string ⟨#[x.toNat.toUInt8]⟩) w := by
  have h := run_convert_bytes_back w _ _ 5 ⟨g, 0, none⟩ c [x.toNat.toUInt8] Tryd.underlying73 Tryd.underlying5 Tryd.underlying9 (fun j hj => by
    have hj0 : j = 0 := by simpa using hj
    subst hj0
    rw [add_plain', hc]
    obtain ⟨n, rfl⟩ := Int.eq_ofNat_of_zero_le h0
    have : n % 256 = n := Nat.mod_eq_of_lt (by omega)
    simp [this])
  simpa using h
set_option maxRecDepth 100000 in
set_option maxHeartbeats 1000000 in
theorem refPut_small (n : Nat) (hn : n < 128) (w : World) : Calls Tryd.prog 62 #[.int .i64 n] w (RetStr (varint n) w) := by
  have HY := Lib.hid (varint_small n hn)
  have hb := byte_str (w.alloc (.cells #[.int .u8 (n : Int)] 5)) w.heap.size n 1 (by omega) (by omega) (by simp)
  have hx : (n : Int) < 128 := by omega
  go_enter Tryd.func62, Tryd.ntmps62
  go_wp2_with fail
  go_ret
  exact ret_st2' _ (by rw [HY.out]) (below_new w _)
set_option maxRecDepth 100000 in
set_option maxHeartbeats 1000000 in
theorem refPut_big (n : Nat) (h0 : 128 ≤ n) (hn : n < 16384) (w : World) : Calls Tryd.prog 62 #[.int .i64 n] w (RetStr (varint n) w) := by
  have HY : Hid (varint n = [((n : Int) % 128 + 128).toNat.toUInt8] ++ varint (n / 128)) := Lib.hid (by rw [varint_split n (by omega), Int.add_comm])
  have HP : Hid (∀ W, Below w.heap.size w W → Calls Tryd.prog 62 #[.int .i64 ((n : Int) / 128)] W fun e w' => e = .returned (.string ⟨(varint (n / 128)).toArray⟩) ∧ Below W.heap.size W w' ∧ Below w.heap.size w w') := Lib.hid (fun W hW => by
    have h := refPut_small (n / 128) (by omega) W
    rw [Int.natCast_ediv] at h
    exact h.mono fun _ _ ⟨a, b⟩ => ⟨a, b, bon hW b⟩)
  have hbs : ∀ (W : World) (g c : Nat), W.cell? ⟨g, 0, none⟩ = some (.int .u8 ((n : Int) % 128 + 128)) → Sem.run Tryd.prog (convert 73 9 (.slice (some ⟨g, 0, none⟩) 1 c)) W = .ok (.string ⟨#[((n : Int) % 128 + 128).toNat.toUInt8]⟩) W := fun W g c h => byte_str W g _ c (by omega) (by omega) h
  have hvl := varint_len 0 (n / 128) (by simp; omega)
  have hs : ¬ (9223372036854775807 < 1 + (varint (n / 128)).length) := by omega
  have hx : ¬ (n : Int) < 128 := by omega
  have x0 : (0 : Int) ≤ (n : Int) := by omega
  have HB0 : Below w.heap.size w w := Below.refl _ _
  go_enter Tryd.func62, Tryd.ntmps62
  go_wp2_with fail
  have e1 : (n : Int).tmod 128 = (n : Int) % 128 := Int.tmod_eq_emod_of_nonneg x0
  have e2 : (n : Int).tdiv 128 = (n : Int) / 128 := Int.tdiv_eq_ediv_of_nonneg x0
  have e3 : IntKind.i64.wrap ((n : Int) % 128 + 128) = (n : Int) % 128 + 128 := IntWalk.i64_in _ (by omega)
  have e4 : IntKind.u8.wrap ((n : Int) % 128 + 128) = (n : Int) % 128 + 128 := by simp [IntKind.wrap, IntKind.bits, IntKind.signed]; omega
  have e5 : IntKind.i64.wrap ((n : Int) % 128) = (n : Int) % 128 := IntWalk.i64_in _ (by omega)
  have e6 : IntKind.i64.wrap ((n : Int) / 128) = (n : Int) / 128 := IntWalk.i64_in _ (by omega)
  go_region_with (go_at_call 62; refine (HP.out _ (by first | assumption | exact Below.drew ‹Below w.heap.size w _› | exact below_new w _ | exact (below_new w _).drew)).mono ?_; rintro e w2 ⟨rfl, b2, b3⟩; have hcc := bc b2)
  all_goals
    clear e1 e2 e3 e4 e5 e6 hcc
    go_wp2_with fail
    go_ret
    exact ret_st2' _ (by rw [HY.out, ← str_cat]) (by first | exact b3 | exact b3.drew | exact b3.alloc b3.size _ | exact (b3.alloc b3.size _).drew)
theorem refPut_any (n : Nat) (hn : n < 16384) (w : World) : Calls Tryd.prog 62 #[.int .i64 n] w (RetStr (varint n) w) := by
  by_cases h : n < 128
  · exact refPut_small n h w
  · exact refPut_big n (by omega) hn w
set_option maxRecDepth 100000 in
set_option maxHeartbeats 1000000 in
theorem digits_small (n : Nat) (hn : n < 10) (w : World) : Calls Tryd.prog 41 #[.int .i64 n] w (RetStr (Lib.decDigits n) w) := by
  have HY : Hid (Lib.decDigits n = [(48 + (n : Int)).toNat.toUInt8]) := Lib.hid (by
    rw [Lib.decDigits_one hn, show (48 + (n : Int)).toNat = 48 + n from by omega])
  have hb := byte_str (w.alloc (.cells #[.int .u8 (48 + (n : Int))] 5)) w.heap.size (48 + (n : Int)) 1 (by omega) (by omega) (by simp)
  have hx : (n : Int) < 10 := by omega
  go_enter Tryd.func41, Tryd.ntmps41
  go_wp2_with fail
  go_ret
  exact ret_st2' _ (by rw [HY.out, show (48 + (n : Int)).toNat = 48 + n from by omega]) (below_new w _)
set_option maxRecDepth 100000 in
set_option maxHeartbeats 2000000 in
theorem digits_step (n : Nat) (h0 : 10 ≤ n) (hn : n < 1000000000000) (w : World) (ih : ∀ W, Calls Tryd.prog 41 #[.int .i64 ((n / 10 : Nat) : Int)] W (RetStr (Lib.decDigits (n / 10)) W)) :
    Calls Tryd.prog 41 #[.int .i64 n] w (RetStr (Lib.decDigits n) w) := by
  have HY : Hid (Lib.decDigits n = Lib.decDigits (n / 10) ++ [(48 + (n : Int) % 10).toNat.toUInt8]) := Lib.hid (by
    rw [dd_big n (by omega), show (48 + (n : Int) % 10).toNat = 48 + n % 10 from by omega])
  have HP : Hid (∀ W, Below w.heap.size w W → Calls Tryd.prog 41 #[.int .i64 ((n : Int) / 10)] W fun e w' => e = .returned (.string ⟨(Lib.decDigits (n / 10)).toArray⟩) ∧ Below W.heap.size W w' ∧ Below w.heap.size w w') := Lib.hid (fun W hW => by
    have h := ih W
    rw [Int.natCast_ediv] at h
    exact h.mono fun _ _ ⟨a, b⟩ => ⟨a, b, bon hW b⟩)
  have hbs : ∀ (W : World) (g c : Nat), W.cell? ⟨g, 0, none⟩ = some (.int .u8 (48 + (n : Int) % 10)) → Sem.run Tryd.prog (convert 73 9 (.slice (some ⟨g, 0, none⟩) 1 c)) W = .ok (.string ⟨#[(48 + (n : Int) % 10).toNat.toUInt8]⟩) W := fun W g c h => byte_str W g _ c (by omega) (by omega) h
  have hvl := dd_len 11 (n / 10) (by simp; omega)
  have hs : ¬ (9223372036854775807 < (Lib.decDigits (n / 10)).length + 1) := by omega
  have hx : ¬ (n : Int) < 10 := by omega
  have x0 : (0 : Int) ≤ (n : Int) := by omega
  have HB0 : Below w.heap.size w w := Below.refl _ _
  clear ih
  go_enter Tryd.func41, Tryd.ntmps41
  go_wp2_with fail
  have e1 : (n : Int).tmod 10 = (n : Int) % 10 := Int.tmod_eq_emod_of_nonneg x0
  have e2 : (n : Int).tdiv 10 = (n : Int) / 10 := Int.tdiv_eq_ediv_of_nonneg x0
  have e3 : IntKind.i64.wrap (48 + (n : Int) % 10) = 48 + (n : Int) % 10 := IntWalk.i64_in _ (by omega)
  have e4 : IntKind.u8.wrap (48 + (n : Int) % 10) = 48 + (n : Int) % 10 := by simp [IntKind.wrap, IntKind.bits, IntKind.signed]; omega
  have e5 : IntKind.i64.wrap ((n : Int) % 10) = (n : Int) % 10 := IntWalk.i64_in _ (by omega)
  have e6 : IntKind.i64.wrap ((n : Int) / 10) = (n : Int) / 10 := IntWalk.i64_in _ (by omega)
  go_region_with (go_at_call 41; refine (HP.out _ (by first | assumption | exact Below.drew ‹Below w.heap.size w _› | exact below_new w _ | exact (below_new w _).drew)).mono ?_; rintro e w2 ⟨rfl, b2, b3⟩; have hcc := bc b2)
  all_goals
    clear e1 e2 e3 e4 e5 e6 hcc
    go_wp2_with fail
    go_ret
    exact ret_st2' _ (by rw [HY.out, ← str_cat]) (by first | exact b3 | exact b3.drew | exact b3.alloc b3.size _ | exact (b3.alloc b3.size _).drew)
theorem digits_nat : ∀ (f n : Nat), n ≤ f → n < 1000000000000 → ∀ w : World, Calls Tryd.prog 41 #[.int .i64 n] w (RetStr (Lib.decDigits n) w)
  | 0, n, h, _, w => digits_small n (by omega) w
  | f + 1, n, h, hb, w => by
    by_cases h0 : n < 10
    · exact digits_small n h0 w
    · exact digits_step n (by omega) hb w (fun W => digits_nat f (n / 10) (by omega) (by omega) W)
theorem digits_any (n : Int) (h0 : 0 ≤ n) (hb : n < 1000000000000) (w : World) : Calls Tryd.prog 41 #[.int .i64 n] w (RetStr (Lib.itoa n) w) := by
  obtain ⟨u, rfl⟩ := Int.eq_ofNat_of_zero_le h0
  rw [Lib.itoa_nonneg]
  exact digits_nat u u (Nat.le_refl _) (by omega) w
end Go.Proofs.YthmoplkleopahaaDoor
