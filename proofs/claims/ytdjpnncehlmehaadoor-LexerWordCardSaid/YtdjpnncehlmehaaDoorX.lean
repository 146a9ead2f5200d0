/- The law on Word. -/
import Derived.Test.YtdjpnncehlmehaaDoorV
import Derived.Test.YtdjpnncehlmehaaDoorN
import Derived.Deep.RegionWith
namespace Go.Proofs.YtdjpnncehlmehaaDoor
open Go.RowKit

set_option maxRecDepth 100000 in
set_option maxHeartbeats 2000000 in
theorem lawWord (t : Tok) (w : World) (h0 : -9223372036854775808 ≤ t.int) (h1 : t.int ≤ 9223372036854775807) (ht : t.text.length ≤ maxLen) (hs : t.str.length ≤ maxLen) (hp : Pow w) (hsh : w.ShapedOpen Tryd.prog) :
    Calls Tryd.prog 9 #[.agg (tokA t)] w fun e w' => e = .returned (.bool true) ∧ Below w.heap.size w w' := by
  have HA := Lib.hid (fun (w : World) (h : w.ShapedOpen Tryd.prog) => awake_any w h)
  have B0 : Hid (Below w.heap.size w (w.alloc (.cells (tokA t) 33))) := Lib.hid ((Below.refl _ _).alloc (Nat.le_refl _) _)
  have HSH := Lib.hid (shaped_below hsh B0.out)
  have HP := Lib.hid (pow_below hp B0.out)
  have HC : Hid (∀ w', Below (w.alloc (.cells (tokA t) 33)).heap.size (w.alloc (.cells (tokA t) 33)) w' → w'.cell? ⟨w.heap.size, 0, none⟩ = some (.int .i64 t.kind) ∧ w'.cell? ⟨w.heap.size, 1, none⟩ = some (.string ⟨t.text.toArray⟩) ∧ w'.cell? ⟨w.heap.size, 2, none⟩ = some (.int .i64 t.int) ∧ w'.cell? ⟨w.heap.size, 3, none⟩ = some (.string ⟨t.str.toArray⟩) ∧ w'.cell? ⟨w.heap.size, 4, none⟩ = some (.int .i64 t.line)) := Lib.hid (by
    intro w' hb
    have h := fun j (v : Value) (hj : (tokC t)[j]? = some v) => (hb.cell (p := (⟨w.heap.size, 0, none⟩ : Addr).add j) (by rw [add_off]; simp)).trans (cell_new w (tokC t) 33 w.heap.size rfl j v hj)
    simp only [add_off, Nat.zero_add] at h
    exact ⟨h 0 _ rfl, h 1 _ rfl, h 2 _ rfl, h 3 _ rfl, h 4 _ rfl⟩)
  clear hsh hp
  unfold maxLen at ht hs
  unfold tokA at B0 HSH HP HC ⊢
  have HB : Hid (∀ w', Below (w.heap.size + 1) (w.alloc (.cells #[.int .i64 t.kind, .string ⟨t.text.toArray⟩, .int .i64 t.int, .string ⟨t.str.toArray⟩, .int .i64 t.line] 33)) w' → Below w.heap.size w w') := Lib.hid (fun _ h => B0.out.trans (h.mono (by omega)))
  have hsz : (w.alloc (.cells #[.int .i64 t.kind, .string ⟨t.text.toArray⟩, .int .i64 t.int, .string ⟨t.str.toArray⟩, .int .i64 t.line] 33)).heap.size = w.heap.size + 1 := by simp
  rw [hsz] at HC
  by_cases hc : t.text.length ≤ 1000 ∧ t.str.length ≤ 1000
  · obtain ⟨hc1, hc2⟩ := hc
    have hcall : ∀ k, (∀ W, Pow W → Calls Tryd.prog k #[.agg (tokA t)] W (RetWord t W)) → ∀ w', Below (w.heap.size + 1) (w.alloc (.cells #[.int .i64 t.kind, .string ⟨t.text.toArray⟩, .int .i64 t.int, .string ⟨t.str.toArray⟩, .int .i64 t.line] 33)) w' →
        Calls Tryd.prog k #[.agg #[.int .i64 t.kind, .string ⟨t.text.toArray⟩, .int .i64 t.int, .string ⟨t.str.toArray⟩, .int .i64 t.line]] w' fun e w'' => e = .returned (.string ⟨(word t).toArray⟩) ∧ Below (w.heap.size + 1) (w.alloc (.cells #[.int .i64 t.kind, .string ⟨t.text.toArray⟩, .int .i64 t.int, .string ⟨t.str.toArray⟩, .int .i64 t.line] 33)) w'' ∧
          w''.cell? ⟨w.heap.size, 0, none⟩ = some (.int .i64 t.kind) ∧ w''.cell? ⟨w.heap.size, 1, none⟩ = some (.string ⟨t.text.toArray⟩) ∧ w''.cell? ⟨w.heap.size, 2, none⟩ = some (.int .i64 t.int) ∧ w''.cell? ⟨w.heap.size, 3, none⟩ = some (.string ⟨t.str.toArray⟩) ∧ w''.cell? ⟨w.heap.size, 4, none⟩ = some (.int .i64 t.line) := by
      intro k hk w' hb
      have hb' := hsz ▸ hb
      refine (hk w' (pow_below HP.out (by rw [hsz]; exact hb))).mono ?_
      rintro e w'' ⟨he, hw⟩
      have h2 := hb.trans (hw.mono (by have := hb.size; rw [hsz] at this; omega))
      exact ⟨he, h2, HC.out _ h2⟩
    have HL := Lib.hid (hcall 25 (fun W hW => lexWord_any t W (by omega) h0 h1 hW))
    have HR := Lib.hid (hcall 26 (fun W hW => refWord_any t W (by omega) h0 h1 hW))
    have n1 : decide ((1000 : Int) < (t.text.length : Int)) = false := by rw [decide_eq_false_iff_not]; omega
    have n2 : decide ((1000 : Int) < (t.str.length : Int)) = false := by rw [decide_eq_false_iff_not]; omega
    clear hcall h0 h1 hc1 hc2
    go_enter Tryd.func9, Tryd.ntmps9
    go_wp2_with fail
    refine (HA.out _ HSH.out).mono ?_
    rintro e w1 ⟨rfl, b1⟩
    rw [hsz] at b1
    have hcc := HC.out _ b1
    obtain ⟨c0, c1, c2, c3, c4⟩ := hcc
    go_wp2_with fail
    go_region_with (first
      | (go_at_call 25; refine (HL.out _ (by repeat' (first | assumption | apply Below.drew))).mono ?_; rintro e w2 ⟨rfl, b2, d0, d1, d2, d3, d4⟩)
      | (go_at_call 26; refine (HR.out _ (by repeat' (first | assumption | apply Below.drew))).mono ?_; rintro e w3 ⟨rfl, b3, e0, e1, e2, e3, e4⟩))
    all_goals
      go_wp2_with fail
      go_ret
      exact ⟨ret_bool (by simp), HB.out _ (by assumption)⟩
  · have hx : (decide ((1000 : Int) < (t.text.length : Int)) = true) ∨ (decide ((1000 : Int) < (t.text.length : Int)) = false ∧ decide ((1000 : Int) < (t.str.length : Int)) = true) := by
      by_cases h : t.text.length ≤ 1000
      · right
        rw [decide_eq_false_iff_not, decide_eq_true_eq]
        omega
      · left
        rw [decide_eq_true_eq]
        omega
    clear hc h0 h1
    rcases hx with n1 | ⟨n1, n2⟩
    all_goals
      go_enter Tryd.func9, Tryd.ntmps9
      go_wp2_with fail
      refine (HA.out _ HSH.out).mono ?_
      rintro e w1 ⟨rfl, b1⟩
      have hcc := HC.out _ (hsz ▸ b1)
      obtain ⟨c0, c1, c2, c3, c4⟩ := hcc
      have B1 := Lib.hid b1
      clear b1
      go_wp2_with fail
      refine (HA.out _ (shaped_below HSH.out B1.out)).mono ?_
      rintro e w2 ⟨rfl, b2⟩
      go_wp2_with fail
      go_ret
      exact ⟨rfl, HB.out _ (hsz ▸ (B1.out.trans (b2.mono B1.out.size)))⟩
end Go.Proofs.YtdjpnncehlmehaaDoor
